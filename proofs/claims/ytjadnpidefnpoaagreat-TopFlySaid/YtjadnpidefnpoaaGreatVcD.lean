/- Part. -/
import Derived.Test.YtjadnpidefnpoaaGreatVcC
namespace Go.Vc
open Go Go.RowKit
def g03(ops:Array Oper)(o:Oper)(σ:St):Option Bool :=
 match o.guard with
 | none=>some true
 | some (j,want) =>
   match (ops[j]?).bind (·.dst)with
   | some t => match σ.tm.getD t .any with
     | .lit c=>some (c==want)
     | .val (.tuple _)=>some false
     | _=>none
   | none=>none
def fin(sp:Bool)(s:SV)(k:SV->Prop):Prop :=
 match sp with
 | false=>k s
 | true=>match s with
   | .lit c=>k (.lit c)
   | .val (.bool b)=>(b=true->k (.lit true))/\(b=false->k (.lit false))
   | _=>False
def M0b(P:Program)(f:FuncId):Bool :=
 match P.funcs[f]? with
 | some fn => !(fn.name == "runtime.NumGoroutine") && fn.body.isSome
 | none=>false
def resT(Shp:l04)(ts:List TypeId)(v:Value)(k:SV->Prop):Prop :=
 match ts with
 | []=>v = .tuple #[]/\k (.val (.tuple #[]))
 | [t]=>∃x:(Shp t).α,v=(Shp t).val x/\k (.val ((Shp t).val x))
 | [t,u]=>∃(x:(Shp t).α) (y:(Shp u).α),v = .tuple #[(Shp t).val x,(Shp u).val y]/\k (.val (.tuple #[(Shp t).val x,(Shp u).val y]))
 | [t,u,s]=>∃(x:(Shp t).α) (y:(Shp u).α) (z:(Shp s).α),v = .tuple #[(Shp t).val x,(Shp u).val y,(Shp s).val z]/\k (.val (.tuple #[(Shp t).val x,(Shp u).val y,(Shp s).val z]))
 | [t,u,s,r]=>∃(x:(Shp t).α) (y:(Shp u).α) (z:(Shp s).α) (q:(Shp r).α),v = .tuple #[(Shp t).val x,(Shp u).val y,(Shp s).val z,(Shp r).val q] /\
     k (.val (.tuple #[(Shp t).val x,(Shp u).val y,(Shp s).val z,(Shp r).val q]))
 | _=>False
def ptrQ:TypeDesc->Bool
 | .pointer _=>true
 | _=>false
def m12(P:Program)(t:TypeId)(name:String):Option FuncId :=
 match P.info? t,P.underlying t with
 | some i,some u=>match i.methods.find? (·.name==name),ptrQ u with
   | some m, false => match m.path.isEmpty, m.func with
     | true,some (f,false)=>some f
     | _,_=>none
   | _,_=>none
 | _,_=>none
def t0n(P:Program)(o:Oper)(ev:Operand->SV):Option (FuncId×List Value) :=
 match o.op with
 | .call c =>
   match c.callee with
   | .value fo =>
     match ev fo with
     | .val (.func (.func f) first caps) =>
       match first.toList,M0b P f,Y09 ev c.args.toList with
       | fs,true,some vs=>some (f,fs++(vs++caps.toList))
       | _,_,_=>none
     | _=>none
   | .invoke r name =>
     match ev r with
     | .val (.iface t x) =>
       match m12 P t name with
       | some f => match M0b P f, Y09 ev c.args.toList with
         | true,some vs=>some (f,x::vs)
         | _,_=>none
       | none=>none
     | _=>none
   | _=>none
 | _=>none
def l0l(P:Program)(Shp:l04)(sp:Bool)(o:Oper)(σ:St)(V:View)(K:St->View->Prop):Prop :=
 match t0n P o σ.ev with
 | some (f,vs)=>a00 P f vs.toArray V λv V'=>resT Shp (l0g P f) v λs=>fin sp s λs=>K (σ.put o.dst s) V'
 | none=>False
def z0f(P:Program)(o:Oper)(σ:St)(V:View)(K:St->View->Prop):Prop :=
 match k0g P o σ.ev with
 | some (cells,n)=>∀(b:Nat) (V':View),V.le V'->V'.Fin->V' b=some cells->K (σ.put o.dst (.val (.slice (some ⟨b,0,none⟩) n n))) V'
 | none=>False
def g0t(P:Program)(o:Oper)(ev:Operand->SV):Option (FuncId×(Nat×Nat×Nat×Nat)×List Value) :=
 match o.op with
 | .call c =>
   match c.callee,c.args.toList with
   | .value fo, x :: rest =>
     match ev fo,ev x with
     | .val (.func (.func f) first caps), .osl id off len cap =>
       match first.toList,caps.toList,M0b P f,Y09 ev rest with
       | [],[],true,some vs=>some (f,(id,off,len,cap),vs)
       | _,_,_,_=>none
     | _,_=>none
   | _,_=>none
 | _=>none
def T0l(P:Program)(Shp:l04)(sp:Bool)(o:Oper)(σ:St)(V:View)(K:St->View->Prop):Prop :=
 match g0t P o σ.ev with
 | some (f,(id,off,len,cap),vs) =>
   match σ.own[id]? with
   | some (some ⟨ty,.dyn l⟩)=>p0n P f (λb => .slice (some ⟨b,off,none⟩) len cap::vs) ty l V λv l' V' =>
       resT Shp (l0g P f) v λs=>fin sp s λs=>K ((σ.setOwn id (some ⟨ty,.dyn l'⟩)).put o.dst s) V'
   | _=>False
 | none=>False
def U0l(P:Program)(Shp:l04)(solid:Bool)(id:Nat)(o:Oper)(σ:St)(V:View)(K:St->View->Prop):Prop :=
 match t0n P o σ.ev,σ.own[id]? with
 | some (f,vs),some none =>
   match l0g P f with
   | [t] => match X0a P t with
     | some e => j0f P f vs.toArray e V fun n cap l rest V' => rest = [] ∧ (match solid with
       | false=>K ((σ.setOwn id (some ⟨e,.list l⟩)).put o.dst (.lst id n cap)) V'
       | true=>(cap≠0/\l≠[])/\K ((σ.setOwn id (some ⟨e,.dyn l⟩)).put o.dst (.osl id 0 n cap)) V')
     | none=>False
   | [t, u] => match X0a P t with
     | some e=>j0f P f vs.toArray e V λn cap l rest V'=>∃x:(Shp u).α,rest=[(Shp u).val x]/\K ((σ.setOwn id (some ⟨e,.list l⟩)).put o.dst (.tlst id n cap [(Shp u).val x])) V'
     | none=>False
   | _=>False
 | _,_=>False
def u0h(P:Program)(o:Oper)(σ:St)(V:View)(K:St->View->Prop):Prop :=
 match g0t P o σ.ev with
 | some (f,(id,off,len,cap),vs) =>
   match σ.own[id]? with
   | some (some ⟨ty,.dyn l⟩)=>g0i P f (λb => .slice (some ⟨b,off,none⟩) len cap::vs) ty l V λl' V' =>
       K ((σ.setOwn id (some ⟨ty,.dyn l'⟩)).put o.dst (.osl id off len cap)) V'
   | _=>False
 | none=>False
def x0w(P:Program)(o:Oper)(ev:Operand->SV):Option (FuncId×Nat×List Value) :=
 match o.op with
 | .call c =>
   match c.callee with
   | .value fo =>
     match ev fo with
     | .clo f [idp] => match M0b P f, Y09 ev c.args.toList with
       | true,some vs=>some (f,idp,vs)
       | _,_=>none
     | _=>none
   | _=>none
 | _=>none
def u0r(P:Program)(o:Oper)(σ:St)(V:View)(K:St->View->Prop):Prop :=
 match o.op with
 | .makeSlice t n c =>
   match X0a P t,σ.ev n,σ.ev c with
   | some e, .val (.int _ ln), .val (.int _ cp) =>
     match B0d P e,Q07 P e,i0i P e with
     | some zs, some sz, some bs => (0 ≤ ln ∧ ln ≤ cp ∧ (bs : Int) * cp ≤ 281474976710656 ∧ cp ≤ 9223372036854775807) ∧
       (match Nat.beq zs.length sz with
        | true=>∀(b:Nat) (V':View),V.le V'->V'.Fin->V' b=some (List.toArray (List.replicate cp.toNat zs).flatten)->K (σ.put o.dst (.val (.slice (some ⟨b,0,none⟩) ln.toNat cp.toNat))) V'
        | false=>False)
     | _,_,_=>False
   | _,_,_=>False
 | _=>False
def appQ(P:Program)(o:Oper):Option (Operand×Operand×TypeId×Nat×Nat) :=
 match o.op with
 | .call c =>
   match c.callee,c.args.toList,c.argTypes.toList with
   | .builtin .append, [x, y], [t, u] =>
     match Nat.beq t u,X0a P t with
     | true, some e =>
       match B0d P e,Q07 P e,i0i P e with
       | some zs, some sz, some bs =>
         match Nat.beq zs.length sz,Nat.ble 1 sz with
         | true,true=>some (x,y,e,sz,bs)
         | _,_=>none
       | _,_,_=>none
     | _,_=>none
   | _,_,_=>none
 | _=>none
structure G02 (sz n cap:Nat) (l xs:List Value):Prop where
 le:n<=cap
 len:l.length=cap*sz
 take:l.take (n*sz)=xs
def T0c(P:Program)(o:Oper)(σ:St)(V:View)(K:St->View->Prop):Prop :=
 match appQ P o with
 | some (x,y,_,sz,bs) =>
   match σ.ev x,σ.ev y with
   | .val (.slice a n c),.val (.slice a2 m _)=>n=c/\∃xs vs:List Value,V.has a xs/\xs.length=n*sz/\V.has a2 vs/\vs.length=m*sz/\n+m<=maxLen/\(n+m)*bs<=140737488355328 /\
       ∀(ra:Option Addr) (rc:Nat) (V':View),V.le V'->V'.Fin->n+m<=rc->V'.has ra (xs++vs)->(n+m≠0->ra.isSome=true)->K (σ.put o.dst (.val (.slice ra (n+m) rc))) V'
   | _,_=>False
 | none=>False
def AppR(m V:View)(a:Option Addr)(n c k sz:Nat)(xs vs:List Value)(ra:Option Addr)(rc:Nat)(m':View):Prop :=
 (k=0/\ra=a/\rc=c/\m'=m) \/
 (k≠0/\n+k<=c/\ra=a/\rc=c/\∃(b off:Nat) (cs:List Value),a=some ⟨b,off,none⟩/\m b=some cs.toArray/\off+(n+k)*sz<=cs.length/\m'=I00 m b (setL cs (off+n*sz) vs).toArray) \/
 (k≠0/\c<n+k/\∃(b:Nat) (l:List Value),m b=none/\V b=none/\G02 sz (n+k) rc l (xs++vs)/\ra=some ⟨b,0,none⟩/\m'=I00 m b l.toArray)
def m0l(P:Program)(rt:Nat)(o:Oper)(σ:St)(V:View)(K:St->View->Prop):Prop :=
 match appQ P o,σ.own[rt]? with
 | some (x,y,_,sz,bs),some (some ⟨ty,.reg m⟩) =>
   match σ.ev x,σ.ev y with
   | .val (.slice a n c),.val (.slice a2 k _)=>∃xs vs:List Value,(n<=c/\(a=none->c=0))/\has2 m V a xs/\xs.length=n*sz/\has2 m V a2 vs/\vs.length=k*sz/\(∀v∈vs,v.oneCell'=true)/\n+k<=maxLen/\(n+k)*bs<=140737488355328 /\
       (k≠0->n+k<=c->∃(b off:Nat) (cs:List Value),a=some ⟨b,off,none⟩/\m b=some cs.toArray/\off+(n+k)*sz<=cs.length) /\
       ∀(ra:Option Addr) (rc:Nat) (m':View),AppR m V a n c k sz xs vs ra rc m'->K ((σ.setOwn rt (some ⟨ty,.reg m'⟩)).put o.dst (.val (.slice ra (n+k) rc))) V
   | _,_=>False
 | _,_=>False
def o0g(P:Program)(rt:Nat)(o:Oper)(σ:St)(V:View)(K:St->View->Prop):Prop :=
 match o.op with
 | .makeSlice t n c =>
   match X0a P t,σ.own[rt]? with
   | some e, some (some ⟨ty, .reg m⟩) =>
     match σ.ev n,σ.ev c with
     | .val (.int _ ln), .val (.int _ cp) =>
       match B0d P e,Q07 P e,i0i P e with
       | some zs, some sz, some bs => (0 ≤ ln ∧ ln ≤ cp ∧ (bs : Int) * cp ≤ 281474976710656 ∧ cp ≤ 9223372036854775807) ∧
         (match Nat.beq zs.length sz with
          | true=>∀b:Nat,m b=none->V b=none->K ((σ.setOwn rt (some ⟨ty,.reg (I00 m b (List.replicate cp.toNat zs).flatten.toArray)⟩)).put o.dst (.val (.slice (some ⟨b,0,none⟩) ln.toNat cp.toNat))) V
          | false=>False)
       | _,_,_=>False
     | _,_=>False
   | _,_=>False
 | _=>False
def O06(id:Nat):SV->SV
 | .lst i n c=>if i=id then .any else .lst i n c
 | .tlst i n c r=>if i=id then .any else .tlst i n c r
 | .les i n c=>if i=id then .any else .les i n c
 | s=>s
def N0f(id:Nat):Cs->Cs
 | .fixed l => .fixed (l.map (O06 id))
 | .dyn l => .dyn l
 | .list l => .list l
 | .reg m => .reg m
def p0g(id:Nat)(o:Option OB):Option OB:=o.map λob=>⟨ob.ty,N0f id ob.cs⟩
def St.kill(σ:St)(id:Nat):St:={ tm:=σ.tm.map (O06 id),own:=σ.own.map (p0g id) }
def appT(P:Program)(id:Nat)(o:Oper)(σ:St)(V:View)(K:St->View->Prop):Prop :=
 match appQ P o with
 | some (x,y,e,sz,bs) =>
   match σ.ev x,σ.ev y,σ.own[id]? with
   | .lst i n cap, .val (.slice a2 m _), some (some ⟨e', .list l⟩) =>
     match Nat.beq i id,Nat.beq e' e with
     | true, true => ∃ xs vs : List Value, G02 sz n cap l xs ∧ V.has a2 vs ∧ vs.length = m * sz ∧ (∀ v ∈ vs, v.oneCell' = true) ∧ n + m ≤ maxLen ∧ (n + m) * bs ≤ 140737488355328 ∧
       ∀(cap':Nat) (l':List Value),G02 sz (n+m) cap' l' (xs++vs)->K (((σ.kill id).setOwn id (some ⟨e,.list l'⟩)).put o.dst (.lst id (n+m) cap')) V
     | _,_=>False
   | .les i n cap, .val (.slice a2 m _), some (some ⟨e', .list l⟩) =>
     match Nat.beq i id,Nat.beq e' e with
     | true, true => ∃ xs vs : List Value, G02 sz n cap l xs ∧ V.has a2 vs ∧ vs.length = m * sz ∧ (∀ v ∈ vs, v.oneCell' = true) ∧ n + m ≤ maxLen ∧ (n + m) * bs ≤ 140737488355328 ∧
       ∀(cap':Nat) (l':List Value),G02 sz (n+m) cap' l' (xs++vs)->K (((σ.kill id).setOwn id (some ⟨e,.list l'⟩)).put o.dst (.les id (n+m) cap')) V
     | _,_=>False
   | _,_,_=>False
 | none=>False
def A0f(P:Program)(Shp:l04)(sp:Bool)(rt:Nat)(o:Oper)(σ:St)(V:View)(K:St->View->Prop):Prop :=
 match t0n P o σ.ev,σ.own[rt]? with
 | some (f,vs),some (some ⟨ty,.reg m⟩)=>f03 P f vs.toArray m V λv m' V' =>
     resT Shp (l0g P f) v λs=>fin sp s λs=>K ((σ.setOwn rt (some ⟨ty,.reg m'⟩)).put o.dst s) V'
 | _,_=>False
def W0l(P:Program)(id:Nat)(o:Oper)(σ:St)(V:View)(K:St->View->Prop):Prop :=
 match x0w P o σ.ev with
 | some (f,idp,vs) =>
   match σ.own[idp]?,σ.own[id]? with
   | some (some ⟨tp, .fixed [.lst i n cap]⟩), some (some ⟨e, .list l⟩) =>
     match Nat.beq i id with
     | true=>D0z P f vs tp e n cap l V λn' cap' l' V' =>
         K ((((σ.kill id).setOwn id (some ⟨e,.list l'⟩)).setOwn idp (some ⟨tp,.fixed [.lst id n' cap']⟩)).put o.dst (.val (.tuple #[]))) V'
     | false=>False
   | _,_=>False
 | none=>False
def actT(P:Program)(Shp:l04)(an:An)(o:Oper)(σ:St)(V:View)(K:St->View->Prop):Prop :=
 match an.fl with
 | 10=>l0l P Shp an.sp o σ V K
 | 11=>z0f P o σ V K
 | 14=>T0l P Shp an.sp o σ V K
 | 13=>appT P an.rt o σ V K
 | 15=>T0c P o σ V K
 | 17=>u0r P o σ V K
 | 18=>U0l P Shp an.sp an.rt o σ V K
 | 19=>u0h P o σ V K
 | 21=>W0l P an.rt o σ V K
 | 24=>A0f P Shp an.sp an.rt o σ V K
 | 25=>m0l P an.rt o σ V K
 | 26=>o0g P an.rt o σ V K
 | _=>a0a P Shp V an o σ.ev σ.own[an.rt]? λs ob=>fin an.sp s λs=>K ((σ.setOwn an.rt ob).put o.dst s) V
def I05(P:Program)(Shp:l04)(ops:Array Oper)(an:An)(o:Oper)(σ:St)(V:View)(K:St->View->Prop):Prop :=
 match g03 ops o σ with
 | some true=>actT P Shp an o σ V K
 | some false=>K (σ.put o.dst (.val undef)) V
 | none=>False
def O0f(P:Program)(Shp:l04)(ops:Array Oper):List (Oper×An)->St->View->(St->View->Prop)->Prop
 | [],σ,V,K=>K σ V
 | (o,an)::l,σ,V,K=>I05 P Shp ops an o σ V λσ' V'=>O0f P Shp ops l σ' V' K
def T13(P:Program)(ops:Array Oper)(o:Oper)(a:Act)(w:World)(N:Act->World->Prop)(Q:Exit->Act->World->Prop):Prop :=
 if Region.wanted o (yielded ops a.tmps)then o.wp P a w N Q\/(o.asks P a w/\LetsOut Q)else N (a.put o.dst undef) w
theorem g0j{addr own}{sp:Bool}{s:SV}{x:Value}{k:SV->Prop}(hr:Rel addr own s x)(h:fin sp s k):∃s',Rel addr own s' x/\k s':=by
 unfold fin at h;split at h
 . exact⟨s,hr,h⟩
 split at h
 . exact⟨_,hr,h⟩
 . rename_i b;cases b with
   | true=>exact⟨.lit true,hr,h.1 rfl⟩
   | false=>exact⟨.lit false,hr,h.2 rfl⟩
 exact h.elim
theorem k0i{B w0 σ V a w addr}{ops:Array Oper}{o:Oper}{c:Bool}(hc:Conc B w0 σ V a w addr)(h:g03 ops o σ=some c) :
 Region.wanted o (yielded ops a.tmps)=c:=by
 unfold g03 at h;unfold Region.wanted;cases hg:o.guard with
 | none=>simp[hg]at h; simp[h]
 | some g =>
   obtain⟨j,want⟩:=g;simp only[hg]at h ⊢;split at h
   . rename_i t ht;split at h
     . rename_i b hb;simp at h;have hlt:t<σ.tm.length:=by
        rcases Ad t σ.tm.length with h|h
        . exact h
        simp[List.getD,Ab h]at hb
       have hr:=hc.rel t hlt;rw[hb]at hr;simp only[Rel]at hr;have h2:t<a.tmps.size:=by rw[hc.size]; exact hlt
       have:a.tmps[t]?=some (.bool b):=by
        rw[Bw h2];simp[Ai,h2]at hr;rw[hr]
       simp[yielded,ht,this,<-h]
     . rename_i vs hb;simp at h;have hlt:t<σ.tm.length:=by
        rcases Ad t σ.tm.length with h|h
        . exact h
        simp[List.getD,Ab h]at hb
       have hr:=hc.rel t hlt;rw[hb]at hr;simp only[Rel]at hr;have h2:t<a.tmps.size:=by rw[hc.size]; exact hlt
       have:a.tmps[t]?=some (.tuple vs):=by
        rw[Bw h2];simp[Ai,h2]at hr;rw[hr]
       simp[yielded,ht,this,<-h]
     simp at h
   simp at h
theorem Conc.view{B w0 σ V V' a w w' addr}(hc:Conc B w0 σ V a w addr)(_:V.le V')(hin:V'.In w')(hf:V.fresh w.heap.size V')(hb:Below w.heap.size w w') :
 Conc B w0 σ V' a w' addr:=by
 have hlt:∀id ob,σ.own.getD id none=some ob->ob.cs.real->addr id<w.heap.size:=by
  intro id ob h hre;obtain⟨arr,hw,_⟩:=hc.blk id ob h hre;rcases Ad (addr id) w.heap.size with h|h
  . exact h
  rw[Au h]at hw; simp at hw
 refine⟨hc.size,hc.osize,hc.rel,hc.defers,λid ob h hre => ?_,hc.lo,hc.lent,λid ob h hre => ?_,hc.inj,hin,hc.below.trans (B05.of_below hb),g08 hc.fresh hf hc.below.size,
  hc.reg.step (λ_ _ _ h=>h) (λb hb' _=>hb.block b hb') (λb cs h=>(hf b cs h).imp id .inl) (λi ob h hr => .inl ⟨i,ob,h,hr,rfl⟩)⟩
 . obtain⟨arr,hw,hba⟩:=hc.blk id ob h hre;exact⟨arr,by rw[hb.block _ (hlt _ _ h hre)]; exact hw,hba⟩
 cases hv:V' (addr id)with
 | none=>rfl
 | some cs =>
   rcases hf _ _ hv with h1|h1
   . rw[hc.out id ob h hre]at h1; simp at h1
   have:=hlt _ _ h hre; omega
theorem q0g{Shp:l04}{ts:List TypeId}{v:Value}{k:SV->Prop}(h:resT Shp ts v k):k (.val v):=by
 unfold resT at h;split at h
 . obtain⟨rfl,h⟩:=h; exact h
 . obtain⟨x,rfl,h⟩:=h; exact h
 . obtain⟨x,y,rfl,h⟩:=h; exact h
 . obtain⟨x,y,z,rfl,h⟩:=h; exact h
 . obtain⟨x,y,z,q,rfl,h⟩:=h; exact h
 exact h.elim
theorem y0w{P:Program}{t:TypeId}{name:String}{f:FuncId}(h:m12 P t name=some f)(x:Value)(n:Nat)(w:World):(method (n+1) t x name).run P w = .ok (f,x) w:=by
 unfold m12 at h;split at h
 . rename_i i u hi hu;split at h
   . rename_i m hm hp;split at h
     . rename_i g he hf;simp only[Ay]at h;subst h;have hpath:m.path=#[]:=by simpa using he
       unfold method;simp only[typeInfo,hi,hm,hpath,hf,receiverAt,Sem.run_bind,Sem.run_pure,Result.andThen_ok,run_program,follow,underlying,hu];cases u<;>simp_all [ptrQ,Place.get]
     simp at h
   simp at h
 simp at h
theorem y0j{P:Program}{o B w0 σ V a w addr f vs}(hc:Conc B w0 σ V a w addr)(h:t0n P o σ.ev=some (f,vs)) :
 (execOp a.eval o).run P w = .ok (.enter f vs.toArray) w:=by
 unfold t0n at h;split at h
 . rename_i c hop;split at h
   . rename_i fo hcal;have hf:=hc.eval fo;split at h
     . rename_i f' first caps hfo
       rw[hfo]at hf;simp only[Rel]at hf;split at h
       . rename_i vs' hcb hvs;simp only[Ay,Fd9]at h;obtain⟨rfl,rfl⟩:=h;unfold M0b at hcb;split at hcb
         . rename_i fn hfn;simp only[By,De]at hcb;have hargs:c.args.map a.eval=vs'.toArray:=by
            apply Bv;simpa using l08 hc.eval hvs
           have hbody:fn.body.isNone=false:=by cases hb:fn.body<;>simp_all
           have hcat:first++vs'.toArray++caps=(first.toList++(vs'++caps.toList)).toArray:=by apply Bv; simp
           simp only[execOp,hop,resolve,hcal,hargs,hf,Deferred.ofValue,Sem.run_bind,Sem.run_pure,Result.andThen_ok,invoke,callFunc,run_program];simp[hfn,hcb.1,hbody,hcat]
         simp at hcb
       simp at h
     simp at h
   . rename_i r name hcal;have hf:=hc.eval r;split at h
     . rename_i t x hro;rw[hro]at hf;simp only[Rel]at hf;split at h
       . rename_i g hm;split at h
         . rename_i vs' hcb hvs;simp only[Ay,Fd9]at h;obtain⟨rfl,rfl⟩:=h;unfold M0b at hcb;split at hcb
           . rename_i fn hfn;simp only[By,De]at hcb;have hargs:c.args.map a.eval=vs'.toArray:=by
              apply Bv;simpa using l08 hc.eval hvs
             have hbody:fn.body.isNone=false:=by cases hb:fn.body<;>simp_all
             have hcat:#[x]++vs'.toArray=(x::vs').toArray:=by apply Bv; simp
             have hmeth:=y0w hm x (P.types.size+(Made.depth-1)) w;have hdep:P.types.size+(Made.depth-1)+1=P.types.size+Made.depth:=by unfold Made.depth; omega
             rw[hdep]at hmeth;have hext:(#[x]++vs'.toArray).extract 1 (#[x]++vs'.toArray).size=vs'.toArray:=by apply Bv; simp
             simp only[execOp,hop,resolve,hcal,hargs,hf,Sem.run_bind,Sem.run_pure,Result.andThen_ok,invoke,callMethod,callFunc];have hnm : ¬ fn.name = "runtime.NumGoroutine" := by simpa using hcb.1
             have hbd:¬fn.body=none:=by intro e; rw[e]at hcb; simp at hcb
             simp[hmeth,hfn,hnm,hbd]
           simp at hcb
         simp at h
       simp at h
     simp at h
   simp at h
 simp at h
theorem w0r{P:Program}{Shp sp o B w0 σ V a w addr}{K:St->View->Prop}{N:Act->World->Prop}{Q:Exit->Act->World->Prop}(hc:Conc B w0 σ V a w addr)
 (hN:∀σ' V' a' w' addr',V.le V'->Conc B w0 σ' V' a' w' addr'->K σ' V'->N a' w') (h:l0l P Shp sp o σ V K):o.wp P a w N Q:=by
 unfold l0l at h;split at h
 . rename_i f vs hq;unfold Oper.wp;rw[y0j hc hq];rw[Oper.upon_enter];refine(h w hc.vin).mono λe w' ⟨v,V',he,hle,hin,hf,hb,hk⟩ => ?_;subst he;have hk':=q0g hk;obtain⟨s',hrel,hk''⟩:=g0j (addr:=addr) (own:=σ.own) (x:=v) (s := .val v) rfl hk';exact hN _ V' _ w' addr hle ((hc.view hle hin hf hb).put o.dst hrel) hk''
 exact h.elim
theorem X0l{P:Program}{o B w0 σ V a w addr f id off len cap vs}(hc:Conc B w0 σ V a w addr)(h:g0t P o σ.ev=some (f,(id,off,len,cap),vs)) :
 (execOp a.eval o).run P w = .ok (.enter f (.slice (some ⟨addr id,off,none⟩) len cap::vs).toArray) w:=by
 unfold g0t at h;split at h
 . rename_i c hop;split at h
   . rename_i fo x rest hcal hargs;have hf:=hc.eval fo;have hx:=hc.eval x;split at h
     . rename_i f' first caps id' off' len' cap' hfo hxo
       rw[hfo]at hf;rw[hxo]at hx;simp only[Rel]at hf hx;split at h
       . rename_i vs' hfirst hcaps hcb hvs;simp only[Ay,Fd9]at h;obtain⟨rfl,⟨rfl,rfl,rfl,rfl⟩,rfl⟩:=h;unfold M0b at hcb;split at hcb
         . rename_i fn hfn;simp only[By,De]at hcb;have hargs:c.args.map a.eval=(.slice (some ⟨addr id',off',none⟩) len' cap'::vs').toArray:=by
            apply Bv;have:=l08 hc.eval hvs;simp[hargs,hx.2,this]
           have hf0:first=#[]:=by apply Bv; simpa using hfirst
           have hc0:caps=#[]:=by apply Bv; simpa using hcaps
           have hbody:fn.body.isNone=false:=by cases hb:fn.body<;>simp_all
           simp only[execOp,hop,resolve,hcal,hargs,hf,hf0,hc0,Deferred.ofValue,Sem.run_bind,Sem.run_pure,Result.andThen_ok,invoke,callFunc,run_program];simp[hfn,hcb.1,hbody]
         simp at hcb
       simp at h
     simp at h
   simp at h
 simp at h
theorem Conc.lentBlk{B w0 σ V V' a w w' addr}(hc:Conc B w0 σ V a w addr){id:Nat}{ob:OB}(hid:σ.own[id]?=some (some ob))(hre:ob.cs.real)(l':List Value)(hkd:kind (some ⟨ob.ty,.dyn l'⟩)=kind (some ob))
 (_:V.le V') (hin:V'.In w') (hf:V.fresh w.heap.size V') (hb:B05 [addr id] w w') (hw':w'.heap[addr id]?=some (.cells l'.toArray ob.ty (0,0))) (hn:V' (addr id)=none) :
 Conc B w0 (σ.setOwn id (some ⟨ob.ty,.dyn l'⟩)) V' a w' addr:=by
 have hg:=N02 hid;have hlt:id<σ.own.length:=by
  rcases Ad id σ.own.length with h|h
  . exact h
  rw[Ab h]at hid; simp at hid
 have hget:∀i,(σ.setOwn id (some ⟨ob.ty,.dyn l'⟩)).own.getD i none=if i=id then some ⟨ob.ty,.dyn l'⟩else σ.own.getD i none:=by
  intro i;simp only[St.setOwn,List.getD,As];by_cases e:id=i
  . subst e; simp[hlt]
  have e':¬i=id:=λx=>e x.symm
  simp[e,e']
 have hmono:∀i,kind (σ.own.getD i none)≠0->kind ((σ.setOwn id (some ⟨ob.ty,.dyn l'⟩)).own.getD i none)=kind (σ.own.getD i none)/\addr i=addr i:=by
  intro i h;rw[hget]; split
  . rename_i e; subst e; rw[hg]; exact⟨hkd,rfl⟩
  exact⟨rfl,rfl⟩
 have hsome:∀i ob',(σ.setOwn id (some ⟨ob.ty,.dyn l'⟩)).own.getD i none=some ob'->ob'.cs.real->∃ob'',σ.own.getD i none=some ob''/\ob''.cs.real:=by
  intro i ob' h hr;rw[hget]at h;split at h
  . rename_i e; exact⟨ob,e▸hg,hre⟩
  exact⟨_,h,hr⟩
 have hltw:∀i ob',σ.own.getD i none=some ob'->ob'.cs.real->addr i<w.heap.size:=by
  intro i ob' h hr;obtain⟨arr,hw,_⟩:=hc.blk i ob' h hr;rcases Ad (addr i) w.heap.size with h|h
  . exact h
  rw[Au h]at hw; simp at hw
 refine⟨hc.size,by simp[St.setOwn,hc.osize],λi hi=>Gy hmono (hc.rel i hi),hc.defers,?_,?_,?_,?_,?_,hin,?_,g08 hc.fresh hf hc.below.size,
  hc.reg.step (λi ty m h => ?_) (λb hb' hno=>hb.block b hb' (by simp only[Ca]; intro he; exact hno id ob hg hre he.symm)) (λb cs h=>(hf b cs h).imp (λg=>g) .inl) (λi ob' h hr => ?_)⟩
 . intro i ob' h hr;rw[hget]at h;split at h
   . rename_i e; cases h; subst e;exact⟨l'.toArray,hw',rfl⟩
   rename_i e;obtain⟨arr',hw,hb'⟩:=hc.blk i ob' h hr;refine⟨arr',?_,Gz hmono hb'⟩;rw[hb.block _ (hltw _ _ h hr)]
   . exact hw
   simp only[Ca]; intro he; exact e (hc.inj _ _ _ _ h hg hr hre he)
 . intro i ob' h hr;obtain⟨ob'',h'',hr''⟩:=hsome _ _ h hr;exact hc.lo i ob'' h'' hr''
 . intro p hp;obtain⟨h1,h2⟩:=hc.lent p hp;exact⟨h1,by rw[(hmono _ (by omega)).1]; exact h2⟩
 . intro i ob' h hr;by_cases e:i=id
   . subst e; exact hn
   rw[hget,if_neg e]at h;cases hv:V' (addr i)with
   | none=>rfl
   | some cs =>
     rcases hf _ _ hv with h1|h1
     . rw[hc.out i ob' h hr]at h1; simp at h1
     have:=hltw _ _ h hr; omega
 . intro i i' ob1 ob2 h1 h2 hr1 hr2 he;obtain⟨_,h1',hr1'⟩:=hsome _ _ h1 hr1;obtain⟨_,h2',hr2'⟩:=hsome _ _ h2 hr2;exact hc.inj _ _ _ _ h1' h2' hr1' hr2' he
 . refine⟨hb.os.trans hc.below.os,hb.tape.trans hc.below.tape,hb.output.trans hc.below.output,Ah hc.below.size hb.size,λk hk hn' => ?_⟩;rw[hb.block k (Cm hk hc.below.size),hc.below.block k hk hn'];simp only[Ca];rintro rfl;rcases hc.lo id ob hg hre with h|h
   . omega
   exact hn' (Ff _ h)
 . rw[hget]at h;split at h
   . exact absurd h (by simp)
   exact h
 obtain⟨ob'',h'',hr''⟩:=hsome _ _ h hr;exact .inl ⟨i,ob'',h'',hr'',rfl⟩
theorem Conc.callReg{B w0 σ V V' a w w' addr}(hc:Conc B w0 σ V a w addr){rt:Nat}{ty:TypeId}{m m':View}(hrt:σ.own[rt]?=some (some ⟨ty,.reg m⟩))
 (_:V.le V') (hin:V'.In w') (hf:V.fresh w.heap.size V') (hb:B05 (m.dom w.heap.size) w w') (hm':m'.Lies V' w') (hnew:∀b,m' b≠none->m b≠none\/w.heap.size<=b) :
 Conc B w0 (σ.setOwn rt (some ⟨ty,.reg m'⟩)) V' a w' addr:=by
 have hg:=N02 hrt;have hlt:rt<σ.own.length:=by
  rcases Ad rt σ.own.length with h|h
  . exact h
  rw[Ab h]at hrt; simp at hrt
 have hget:∀i,(σ.setOwn rt (some ⟨ty,.reg m'⟩)).own.getD i none=if i=rt then some ⟨ty,.reg m'⟩else σ.own.getD i none:=by
  intro i;simp only[St.setOwn,List.getD,As];by_cases e:rt=i
  . subst e; simp[hlt]
  have e':¬i=rt:=λx=>e x.symm
  simp[e,e']
 have hmono:∀i,kind (σ.own.getD i none)≠0->kind ((σ.setOwn rt (some ⟨ty,.reg m'⟩)).own.getD i none)=kind (σ.own.getD i none)/\addr i=addr i:=by
  intro i h;rw[hget]; split
  . rename_i e; subst e; rw[hg]; exact⟨rfl,rfl⟩
  exact⟨rfl,rfl⟩
 have hsome:∀i ob',(σ.setOwn rt (some ⟨ty,.reg m'⟩)).own.getD i none=some ob'->ob'.cs.real->σ.own.getD i none=some ob':=by
  intro i ob' h hr;rw[hget]at h;split at h
  . cases h; exact hr.elim
  exact h
 have hltw:∀i ob',σ.own.getD i none=some ob'->ob'.cs.real->addr i<w.heap.size:=by
  intro i ob' h hr;obtain⟨arr,hw,_⟩:=hc.blk i ob' h hr;rcases Ad (addr i) w.heap.size with h|h
  . exact h
  rw[Au h]at hw; simp at hw
 have hdom:∀b,b∈m.dom w.heap.size->∃cs,m b=some cs:=by
  intro b hb;simp only[View.dom,Gf,Co]at hb;exact hb.2
 refine⟨hc.size,by simp[St.setOwn,hc.osize],λi hi=>Gy hmono (hc.rel i hi),hc.defers,?_,?_,?_,?_,?_,hin,?_,g08 hc.fresh hf hc.below.size,⟨?_,?_⟩⟩
 . intro i ob' h hr;have h:=hsome i ob' h hr;obtain⟨arr',hw,hb'⟩:=hc.blk i ob' h hr;refine⟨arr',?_,Gz hmono hb'⟩;rw[hb.block _ (hltw _ _ h hr)]
   . exact hw
   intro hd;obtain⟨cs,hcs⟩:=hdom _ hd;exact(hc.reg.at_ rt ty m hg _ cs hcs).2.2.2 i ob' h hr rfl
 . intro i ob' h hr; exact hc.lo i ob' (hsome i ob' h hr) hr
 . intro p hp;obtain⟨h1,h2⟩:=hc.lent p hp;exact⟨h1,by rw[(hmono _ (by omega)).1]; exact h2⟩
 . intro i ob' h hr;have h:=hsome i ob' h hr;cases hv:V' (addr i)with
   | none=>rfl
   | some cs =>
     rcases hf _ _ hv with h1|h1
     . rw[hc.out i ob' h hr]at h1; simp at h1
     have:=hltw _ _ h hr; omega
 . intro i i' ob1 ob2 h1 h2 hr1 hr2 he;exact hc.inj _ _ _ _ (hsome _ _ h1 hr1) (hsome _ _ h2 hr2) hr1 hr2 he
 . refine⟨hb.os.trans hc.below.os,hb.tape.trans hc.below.tape,hb.output.trans hc.below.output,Ah hc.below.size hb.size,λk hk hn' => ?_⟩;rw[hb.block k (Cm hk hc.below.size),hc.below.block k hk hn'];intro hd;obtain⟨cs,hcs⟩:=hdom _ hd;rcases (hc.reg.at_ rt ty m hg _ cs hcs).2.1 with h|h
   . omega
   exact hn' (Gj _ h.2)
 . intro id ty' m1 h b cs hb';rw[hget]at h;split at h
   . cases h;obtain⟨k1,k2⟩:=hm' b cs hb';rcases hnew b (by rw[hb']; simp)with h0|h0
     . cases hmb:m b with
       | none=>exact absurd hmb h0
       | some cs0 =>
         obtain⟨_,j2,_,j4⟩:=hc.reg.at_ rt ty m hg b cs0 hmb;exact⟨k1,j2,k2,λi ob hi hr=>j4 i ob (hsome i ob hi hr) hr⟩
     exact⟨k1,.inl (Ah hc.below.size h0),k2,λi ob hi hr e=>by have:=hltw i ob (hsome i ob hi hr) hr; omega⟩
   rename_i e;exact absurd (hc.reg.one _ _ _ _ _ _ h hg) e
 have hold:∀id ty' m1,(σ.setOwn rt (some ⟨ty,.reg m'⟩)).own.getD id none=some ⟨ty',.reg m1⟩->id=rt:=by
   intro id ty' m1 h;rw[hget]at h;split at h
   . assumption
   exact hc.reg.one _ _ _ _ _ _ h hg
 intro id id' ty1 ty2 m1 m2 h1 h2;rw[hold _ _ _ h1,hold _ _ _ h2]
theorem W0o{P:Program}{Shp sp rt o B w0 σ V a w addr}{K:St->View->Prop}{N:Act->World->Prop}{Q:Exit->Act->World->Prop}(hc:Conc B w0 σ V a w addr)
 (hN:∀σ' V' a' w' addr',V.le V'->Conc B w0 σ' V' a' w' addr'->K σ' V'->N a' w') (h:A0f P Shp sp rt o σ V K):o.wp P a w N Q:=by
 unfold A0f at h;split at h
 . rename_i f vs ty m hq hrt;unfold Oper.wp;rw[y0j hc hq];rw[Oper.upon_enter];have hg:=N02 hrt;have hlies:m.Lies V w:=λb cs hb=>⟨(hc.reg.at_ rt ty m hg b cs hb).1,(hc.reg.at_ rt ty m hg b cs hb).2.2.1⟩
   refine(h w hc.vin hlies).mono λe w' ⟨v,m',V',he,hle,hin,hf,hb,hm',hnew,hk⟩ => ?_;subst he;have hk':=q0g hk;have hc':=hc.callReg hrt hle hin hf hb hm' hnew;obtain⟨s',hrel,hk''⟩:=g0j (addr:=addr) (own:=(σ.setOwn rt (some ⟨ty,.reg m'⟩)).own) (x:=v) (s := .val v) rfl hk';exact hN _ V' _ w' addr hle (hc'.put o.dst hrel) hk''
 exact h.elim
theorem X0o{P:Program}{Shp sp o B w0 σ V a w addr}{K:St->View->Prop}{N:Act->World->Prop}{Q:Exit->Act->World->Prop}(hc:Conc B w0 σ V a w addr)
 (hN:∀σ' V' a' w' addr',V.le V'->Conc B w0 σ' V' a' w' addr'->K σ' V'->N a' w') (h:T0l P Shp sp o σ V K):o.wp P a w N Q:=by
 unfold T0l at h;split at h
 . rename_i f id off len cap vs hq;split at h
   . rename_i ty l hob;have hg:=N02 hob;obtain⟨arr,hw,hba⟩:=hc.blk id _ hg trivial;simp only[X06]at hba;subst hba;unfold Oper.wp;rw[X0l hc hq];rw[Oper.upon_enter];refine(h w (addr id) hc.vin hw (hc.out id _ hg trivial)).mono λe w' ⟨v,V',l',he,hle,hin,hf,hb,hw',hn,hk⟩ => ?_;subst he;have hk':=q0g hk;have hc':=hc.lentBlk hob trivial l' rfl hle hin hf hb hw' hn;obtain⟨s',hrel,hk''⟩:=g0j (addr:=addr) (own:=(σ.setOwn id (some ⟨ty,.dyn l'⟩)).own) (x:=v) (s := .val v) rfl hk';exact hN _ V' _ w' addr hle (hc'.put o.dst hrel) hk''
   exact h.elim
 exact h.elim
theorem q12{P:Program}{o B w0 V a w σ' s}{k:St->SV->Prop}{N:Act->World->Prop}{Q:Exit->Act->World->Prop}(hd:Does P o B w0 V a w σ' s)(hk:k σ' s)
 (hN:∀x w' addr',Conc B w0 σ' V a w' addr'->Rel addr' σ'.own s x->k σ' s->N (a.put o.dst x) w'):o.wp P a w N Q:=by
 obtain⟨x,nx,w',addr',hrun,hnx,hc',hr⟩:=hd;unfold Oper.wp;rw[hrun];rcases hnx with rfl|⟨rfl,rfl⟩
 . rw[Oper.upon_value]; exact hN x w' addr' hc' hr hk
 rw[Oper.upon_skip]; exact hN _ w' addr' hc' hr hk
theorem A0b{V:View}{b:Nat}{cs:Array Value}(h:V b=none):V.le (λi=>if i=b then some cs else V i):=by
 intro i ds hi;by_cases e:i=b
 . subst e; rw[h]at hi; simp at hi
 simp[e,hi]
theorem Y0o{P:Program}{o B w0 σ V a w addr}{K:St->View->Prop}{N:Act->World->Prop}{Q:Exit->Act->World->Prop}(hc:Conc B w0 σ V a w addr)
 (hN:∀σ' V' a' w' addr',V.le V'->Conc B w0 σ' V' a' w' addr'->K σ' V'->N a' w') (h:z0f P o σ V K):o.wp P a w N Q:=by
 unfold z0f at h;split at h
 . rename_i cells n hC;obtain⟨e,_,hrun⟩:=Q0l hc hC;have hnone:V w.heap.size=none:=by
    cases hv:V w.heap.size with
    | none=>rfl
    | some cs=>obtain⟨T,fr,hw⟩:=hc.vin _ _ hv; simp at hw
   unfold Oper.wp;rw[hrun,Oper.upon_value];let V':View:=λi=>if i=w.heap.size then some cells else V i
   have hle':V.le V':=A0b hnone;have hin:V'.In (w.alloc (.cells cells e)):=by
    intro b cs hb;by_cases eb:b=w.heap.size
    . subst eb;simp[V']at hb; subst hb;exact⟨e,_,heap_alloc_new _ _⟩
    simp[V',eb]at hb;obtain⟨T,fr,hw⟩:=hc.vin b cs hb;have:b<w.heap.size:=by
     rcases Ad b w.heap.size with h|h
     . exact h
     rw[Au h]at hw; simp at hw
    exact⟨T,fr,by rw[heap_alloc_old _ _ _ this]; exact hw⟩
   have hf:V.fresh w.heap.size V':=by
    intro b cs hb;by_cases eb:b=w.heap.size
    . exact .inr (by omega)
    simp[V',eb]at hb; exact .inl hb
   have hb:Below w.heap.size w (w.alloc (.cells cells e)):=(Below.refl _ _).alloc (An9 _) _;exact hN _ V' _ _ addr hle' ((hc.view hle' hin hf hb).put o.dst (s := .val (.slice (some ⟨w.heap.size,0,none⟩) n n)) rfl) (h w.heap.size V' hle' hin.fin (by simp[V']))
 exact h.elim
theorem View.In.none_new{V:View}{w:World}(h:V.In w):V w.heap.size=none:=by
 cases hv:V w.heap.size with
 | none=>rfl
 | some cs=>obtain⟨T,fr,hw⟩:=h _ _ hv; simp at hw
theorem Conc.newKnown{B w0 σ V a w addr}(hc:Conc B w0 σ V a w addr)(w1:World)(hw1:w1.heap=w.heap/\w1.os=w.os/\w1.tape=w.tape/\w1.output=w.output)(cells:Array Value)(e:TypeId) :
 ∃V':View,V.le V'/\V'.Fin/\V' w.heap.size=some cells/\Conc B w0 σ V' a (w1.alloc (.cells cells e)) addr:=by
 obtain⟨h1,h2,h3,h4⟩:=hw1;have hsz:w1.heap.size=w.heap.size:=by rw[h1]
 let V':View:=λi=>if i=w.heap.size then some cells else V i
 have hle':V.le V':=A0b hc.vin.none_new;have hold:∀b,b<w.heap.size->(w1.alloc (.cells cells e)).heap[b]?=w.heap[b]?:=λb hb=>by rw[heap_alloc_old _ _ _ (by omega),h1]
 have hin:V'.In (w1.alloc (.cells cells e)):=by
  intro b cs hb;by_cases eb:b=w.heap.size
  . subst eb;simp[V']at hb; subst hb;exact⟨e,_,by rw[<-hsz]; exact heap_alloc_new _ _⟩
  simp[V',eb]at hb;obtain⟨T,fr,hw⟩:=hc.vin b cs hb;have:b<w.heap.size:=by
   rcases Ad b w.heap.size with h|h
   . exact h
   rw[Au h]at hw; simp at hw
  exact⟨T,fr,by rw[hold _ this]; exact hw⟩
 have hf:V.fresh w.heap.size V':=by
  intro b cs hb;by_cases eb:b=w.heap.size
  . exact .inr (by omega)
  simp[V',eb]at hb; exact .inl hb
 have hb:Below w.heap.size w (w1.alloc (.cells cells e)):=⟨h2,h3,h4,by simp[hsz],λk hk=>hold k hk⟩;exact⟨V',hle',hin.fin,by simp[V'],hc.view hle' hin hf hb⟩
theorem x0r{P:Program}{o B w0 σ V a w addr}{K:St->View->Prop}{N:Act->World->Prop}{Q:Exit->Act->World->Prop}(hc:Conc B w0 σ V a w addr)
 (hN:∀σ' V' a' w' addr',V.le V'->Conc B w0 σ' V' a' w' addr'->K σ' V'->N a' w') (h:u0r P o σ V K):o.wp P a w N Q:=by
 unfold u0r at h;split at h
 . rename_i t n c hop;split at h
   . rename_i e kn ln kc cp he hn hcp;split at h
     . rename_i zs sz bs hzs hsz hbs;obtain⟨⟨h0,h1,h2,h3⟩,h⟩:=h;split at h
       . rename_i hlen;have hlen:zs.length=sz:=Aj hlen;have ht:=U05 he;unfold B0d at hzs;cases hi:P.info? e with
         | none=>simp[hi]at hzs
         | some i =>
           cases hz:i.zero with
           | none=>simp[hi,hz]at hzs
           | some z =>
             simp only[hi,hz,Fu,Aw,Ay]at hzs;simp only[Q07,hi,Aw,Ay]at hsz;simp only[i0i,hi,Aw,Ay]at hbs;subst hsz; subst hbs; subst hzs;have hrn:=hc.eval n;have hrc:=hc.eval c;rw[hn]at hrn; rw[hcp]at hrc;simp only[Rel]at hrn hrc;have hrun:=run_make (P:=P) w t e i z ht hi hz kn kc ln cp h0 h1 h2 h3;have hcells:madeCells z.cells (cp.toNat*i.size)=List.toArray (List.replicate cp.toNat z.cells.toList).flatten:=by
              rw[<-hlen]; exact L0b _ _
             rw[hcells]at hrun;obtain⟨V',hle,hfin,hb,hc'⟩:=hc.newKnown w ⟨rfl,rfl,rfl,rfl⟩ (List.toArray (List.replicate cp.toNat z.cells.toList).flatten) e;unfold Oper.wp;have hex:(execOp a.eval o).run P w = .ok (.value (.slice (some ⟨w.heap.size,0,none⟩) ln.toNat cp.toNat)) (w.alloc (.cells (List.toArray (List.replicate cp.toNat z.cells.toList).flatten) e)):=by
              simp only[execOp,hop,hrn,hrc,Sem.run_bind,hrun,Result.andThen_ok,Sem.run_pure]
             rw[hex,Oper.upon_value];exact hN _ V' _ _ addr hle (hc'.put o.dst (s := .val _) rfl) (h _ V' hle hfin hb)
       exact h.elim
     exact h.elim
   exact h.elim
 exact h.elim
theorem s0g{P:Program}{o:Oper}{x y:Operand}{e:TypeId}{sz bs:Nat}(h:appQ P o=some (x,y,e,sz,bs)) :
 ∃(t:TypeId) (i:TypeInfo) (z:Value),o.op = .call { callee := .builtin .append,args:=#[x,y],argTypes:=#[t,t] }/\P.underlying t=some (.slice e)/\P.info? e=some i/\i.zero=some z/\i.size=sz/\i.bytes=bs /\
  z.cells.size=sz/\1<=sz:=by
 unfold appQ at h;split at h
 . rename_i c hop;split at h
   . rename_i x' y' t u hcal hargs htys;split at h
     . rename_i e' htu he;split at h
       . rename_i zs sz' bs' hzs hsz hbs;split at h
         . rename_i hlen h1;simp only[Ay,Fd9]at h;obtain⟨rfl,rfl,rfl,rfl,rfl⟩:=h;have htu:=Aj htu;have hlen:=Aj hlen;have h1:=Dv h1;subst htu;obtain⟨callee,args,argTypes⟩:=c;simp only at hcal hargs htys;have a1:args=#[x',y']:=by apply Bv; simpa using hargs
           have a2:argTypes=#[t,t]:=by apply Bv; simpa using htys
           subst hcal; subst a1; subst a2;unfold B0d at hzs;cases hi:P.info? e' with
           | none=>simp[hi]at hzs
           | some i =>
             cases hz:i.zero with
             | none=>simp[hi,hz]at hzs
             | some z =>
               simp only[hi,hz,Fu,Aw,Ay]at hzs;simp only[Q07,hi,Aw,Ay]at hsz;simp only[i0i,hi,Aw,Ay]at hbs;exact⟨t,i,z,hop,U05 he,rfl,hz,hsz,hbs,by rw[<-hlen,<-hzs]; simp,h1⟩
         simp at h
       simp at h
     simp at h
   simp at h
 simp at h
theorem Y0a{P:Program}(w:World)(t ty e:TypeId)(i:TypeInfo)(ht:P.underlying t=some (.slice e))(hi:P.info? e=some i)(a:Option Addr)(n c:Nat)(a2:Option Addr)(c2:Nat)(h:n<=c) :
 (Builtin.append_ #[t,t] ty #[.slice a n c,.slice a2 0 c2]).run P w = .ok (.slice a n c) w:=by
 cases a2<;>cases a<;>simp[Builtin.append_,run_underlying ht,sizeOf,typeInfo,hi,Builtin.lenOf,Builtin.firstCells,loadCells,loadCellsFrom,storeCells,h]
theorem f05{P:Program}{o:Oper}{x y:Operand}{t:TypeId}{ρ:Operand->Value}{w w':World}{v:Value}(ho:o.op = .call { callee := .builtin .append,args:=#[x,y],argTypes:=#[t,t] })
 (h:(Builtin.append_ #[t,t] o.type #[ρ x,ρ y]).run P w = .ok v w'):(execOp ρ o).run P w = .ok (.value v) w':=by
 unfold execOp;simp only[ho,resolve,invoke,builtin,Sem.run_bind,Sem.run_pure,Result.andThen_ok,List.map_toArray,Go9,List.map_nil,h]
theorem Q0d{V:View}{w:World}(hin:V.In w){A:Addr}{l:List Value}(h:V.has (some A) l):∀j v,l[j]?=some v->w.cell? (A.add j)=some v :=
 λj v hv=>N04 hin (h j v hv)
theorem P06(xs vs:List Value)(z:Array Value)(k:Nat):∃l:List Value,xs.toArray++vs.toArray++Builtin.zeroCells z k=l.toArray/\l.length=xs.length+vs.length+k*z.size/\l.take (xs.length+vs.length)=xs++vs:=by
 refine⟨xs++vs++(Builtin.zeroCells z k).toList,by apply Bv; simp,by simp[size_zeroCells,Ej],?_⟩;rw[<-Be]; exact List.take_left
theorem n0l{P:Program}{o B w0 σ V a w addr}{K:St->View->Prop}{N:Act->World->Prop}{Q:Exit->Act->World->Prop}(hc:Conc B w0 σ V a w addr)
 (hN:∀σ' V' a' w' addr',V.le V'->Conc B w0 σ' V' a' w' addr'->K σ' V'->N a' w') (h:T0c P o σ V K):o.wp P a w N Q:=by
 unfold T0c at h;split at h
 . rename_i x y e sz bs hq;obtain⟨t,i,z,hop,ht,hi,hz,hsize,hby,hzs,h1⟩:=s0g hq;have hx:=hc.eval x;have hy:=hc.eval y;split at h
   . rename_i ax n c ay m cy ex ey;rw[ex]at hx; rw[ey]at hy;simp only[Rel]at hx hy;obtain⟨rfl,xs,vs,hxs,hxl,hvs,hvl,h63,hb,h⟩:=h;have hml:n+m<=9223372036854775807:=by simp only[maxLen]at h63; omega
     unfold Oper.wp;by_cases hm:m=0
     . subst hm;have hv0:vs=[]:=Cx (by simpa using hvl);subst hv0;have hr:=f05 (P:=P) (ρ:=a.eval) (w:=w) hop (by rw[hx,hy]; exact Y0a w t o.type e i ht hi ax n n ay cy (An9 _));rw[hr,Oper.upon_value];have hk:=h ax n V (Gw V) hc.vin.fin (by omega) (by simpa using hxs) (λh0=>by
        cases ax with
        | some A=>rfl
        | none =>
          have hn0:n*sz≠0:=Bz (by simpa using h0) (by omega);cases xs with
          | nil=>simp at hxl; omega
          | cons v l=>have:=hxs 0 v rfl; simp[View.load]at this)
       exact hN _ V _ _ addr (Gw V) (hc.put o.dst (s := .val _) rfl) hk
     have hms:m*sz≠0:=Bz hm (by omega);cases ay with
     | none =>
       cases vs with
       | nil=>simp at hvl; omega
       | cons v l=>have:=hvs 0 v rfl; simp[View.load]at this
     | some A =>
       have hnews:=Q0d hc.vin hvs;have fin:∀(cells:Array Value) (cap:Nat),n+m<=cap->(∃l:List Value,cells=l.toArray/\l.take (n*sz+m*sz)=xs++vs) ->
        (execOp a.eval o).run P w = .ok (.value (.slice (some ⟨w.heap.size,0,none⟩) (n+m) cap)) (w.drew.alloc (.cells cells e))->Oper.upon P o a N Q ((execOp a.eval o).run P w):=by
        intro cells cap hcap ⟨l,hl,htake⟩ hr;obtain⟨V',hle,hfin,hb',hc'⟩:=hc.newKnown w.drew ⟨rfl,rfl,rfl,rfl⟩ cells e;rw[hr,Oper.upon_value];refine hN _ V' _ _ addr hle (hc'.put o.dst (s := .val _) rfl) (h _ cap V' hle hfin hcap ?_ (λ_=>rfl));intro j v hv;have hadd:Option.map (λq=>Addr.add q j) (some (⟨w.heap.size,0,none⟩:Addr))=some ⟨w.heap.size,j,none⟩:=by
         simp only[Aw]; congr 1; unfold Addr.add; split<;>simp_all
        rw[hadd];simp only[View.load,hb',hl];rw[<-htake,Gq]at hv;split at hv
        . simpa using hv
        cases hv
       cases ax with
       | none =>
         have hn0:n=0:=by
          rcases Ap n with h0|h0
          . exact h0
          exfalso;have hns:n*sz≠0:=Bz (by omega) (by omega);cases xs with
          | nil=>simp at hxl; omega
          | cons v l=>have:=hxs 0 v rfl; simp[View.load]at this
         subst hn0;have hx0:xs=[]:=Cx (by simpa using hxl);subst hx0;have hrun:=run_append_nil (P:=P) w t o.type e i z ht hi hz A m cy vs (by rw[hsize]; exact hvl) hnews (by omega) (by omega) (by rw[hby]; rw[Am]at hb; omega);have hr:=f05 (P:=P) (ρ:=a.eval) (w:=w) hop (by rw[hx,hy]; exact hrun);obtain⟨l,hl1,_,hl3⟩:=P06 [] vs z.cells (grownCap w m 0 e-m);refine fin _ _ ?_ ⟨l,?_,?_⟩ (by rw[Am]; exact hr)
         . rw[Am]; exact grownCap_ge w m 0 e
         . simpa using hl1
         simp only[Dy,Am,Ef]at hl3;rw[Cy,Am,<-hvl]; simpa using hl3
       | some A0 =>
         have hrun:=run_append_grow (P:=P) w t o.type e i z ht hi hz A0 n n xs (by rw[hsize]; exact hxl) (Q0d hc.vin hxs) A m cy vs (by rw[hsize]; exact hvl) hnews (by omega) (by omega) (by rw[hby]; exact growslice_fits (by omega) hb);have hr:=f05 (P:=P) (ρ:=a.eval) (w:=w) hop (by rw[hx,hy]; exact hrun);obtain⟨l,hl1,_,hl3⟩:=P06 xs vs z.cells (grownCap w (n+m) n e-(n+m));refine fin _ _ (grownCap_ge w (n+m) n e) ⟨l,hl1,?_⟩ hr;rw[<-hxl,<-hvl]; exact hl3
   exact h.elim
 exact h.elim
theorem z0w{σ:St}{r:Nat}{o:Option OB}(h:σ.own[r]?=some o):r<σ.own.length:=by
 rcases Ad r σ.own.length with g|g
 . exact g
 rw[Ab g]at h; simp at h
theorem w0h{σ:St}{r:Nat}(h:r<σ.own.length)(ob:Option OB)(i:Nat):(σ.setOwn r ob).own.getD i none=if i=r then ob else σ.own.getD i none:=by
 simp only[St.setOwn,List.getD,As];by_cases e:r=i
 . subst e; simp[h]
 have e':¬i=r:=λx=>e x.symm
 simp[e,e']
theorem Conc.setReg{B w0 σ V a w addr}(hc:Conc B w0 σ V a w addr){r:Nat}{ty:TypeId}{m':View}(hlt:r<σ.own.length)(h0:kind (σ.own.getD r none)=0\/kind (σ.own.getD r none)=3)
 (hno:∀id ty m,σ.own.getD id none=some ⟨ty,.reg m⟩->id=r)
 (hm:∀b cs,m' b=some cs->(∃T,w.heap[b]?=some (.cells cs T (0,0)))/\(w0.w.heap.size<=b\/(ty=1/\b∈w0.R))/\V b=none/\∀i ob,σ.own.getD i none=some ob->ob.cs.real->addr i≠b) :
 Conc B w0 (σ.setOwn r (some ⟨ty,.reg m'⟩)) V a w addr:=by
 have hget:=w0h hlt (some ⟨ty,.reg m'⟩);have hmono:∀id,kind (σ.own.getD id none)=1\/kind (σ.own.getD id none)=2->kind ((σ.setOwn r (some ⟨ty,.reg m'⟩)).own.getD id none)=kind (σ.own.getD id none):=by
  intro id h;rw[hget]; split
  . rename_i e; subst e; omega
  rfl
 have hrel:∀ {s:SV} {x:Value},Rel addr σ.own s x->Rel addr (σ.setOwn r (some ⟨ty,.reg m'⟩)).own s x:=by
  intro s x h;cases s with
  | own id off=>exact⟨by rw[hmono id (.inl h.1)]; exact h.1,h.2⟩
  | osl id off len cap=>exact⟨by rw[hmono id (.inl h.1)]; exact h.1,h.2⟩
  | clo f ids=>exact⟨λid hid=>by rw[hmono id (.inl (h.1 id hid))]; exact h.1 id hid,h.2⟩
  | lst id n cap=>exact⟨by rw[hmono id (.inr h.1)]; exact h.1,h.2⟩
  | tlst id n cap rest=>exact⟨by rw[hmono id (.inr h.1)]; exact h.1,h.2⟩
  | les id n cap=>exact⟨by rw[hmono id (.inr h.1)]; exact h.1,h.2⟩
  | val v=>exact h
  | lit b=>exact h
  | any=>trivial
 have hsome:∀id ob',(σ.setOwn r (some ⟨ty,.reg m'⟩)).own.getD id none=some ob'->ob'.cs.real->σ.own.getD id none=some ob':=by
  intro id ob' h hre;rw[hget]at h;split at h
  . cases h; exact absurd hre (λh=>h)
  exact h
 refine⟨hc.size,by simp[St.setOwn,hc.osize],λi hi=>hrel (hc.rel i hi),hc.defers,?_,λid ob h hre=>hc.lo id ob (hsome id ob h hre) hre,?_,λid ob h hre=>hc.out id ob (hsome id ob h hre) hre,
  λid id' ob ob' h h' hr hr'=>hc.inj id id' ob ob' (hsome _ _ h hr) (hsome _ _ h' hr') hr hr',hc.vin,hc.below,hc.fresh,⟨?_,?_⟩⟩
 . intro id ob h hre;obtain⟨arr,hw,hb⟩:=hc.blk id ob (hsome id ob h hre) hre;refine⟨arr,hw,?_⟩;cases hcs:ob.cs with
   | fixed l=>rw[hcs]at hb; exact⟨hb.1,λi hi=>hrel (hb.2 i hi)⟩
   | dyn l=>rw[hcs]at hb; exact hb
   | list l=>rw[hcs]at hb; exact hb
   | reg l=>trivial
 . intro p hp;obtain⟨h1,h2⟩:=hc.lent p hp;exact⟨h1,by rw[hmono _ (.inl h2)]; exact h2⟩
 . intro id ty' m h b cs hb;rw[hget]at h;split at h
   . cases h;obtain⟨g1,g2,g3,g4⟩:=hm b cs hb;exact⟨g1,g2,g3,λi ob hi hre=>g4 i ob (hsome i ob hi hre) hre⟩
   rename_i e; exact absurd (hno _ _ _ h) e
 have hold:∀id ty' m,(σ.setOwn r (some ⟨ty,.reg m'⟩)).own.getD id none=some ⟨ty',.reg m⟩->id=r:=by
   intro id ty' m h;rw[hget]at h;split at h
   . assumption
   exact hno _ _ _ h
 intro id id' ty1 ty2 m1 m2 h1 h2;rw[hold _ _ _ h1,hold _ _ _ h2]
theorem Conc.addReg{B w0 σ V a w addr}(hc:Conc B w0 σ V a w addr){r:Nat}{ty:TypeId}{m:View}(hr:σ.own[r]?=some (some ⟨ty,.reg m⟩)){b:Nat}{arr:Array Value}{T:TypeId}
 (hb:w.heap[b]?=some (.cells arr T (0,0))) (hlo:w0.w.heap.size<=b\/(ty=1/\b∈w0.R)) (hV:V b=none) (hap:∀i ob,σ.own.getD i none=some ob->ob.cs.real->addr i≠b) :
 Conc B w0 (σ.setOwn r (some ⟨ty,.reg (I00 m b arr)⟩)) V a w addr:=by
 have hg:=N02 hr;refine hc.setReg (z0w hr) (.inr (by rw[hg]; rfl)) (λid ty' m' h=>hc.reg.one _ _ _ _ _ _ h hg) λb' cs hm => ?_;by_cases e:b'=b
 . subst e;have hm:some arr=some cs:=by rw[<-hm]; simp[I00]
   cases hm;exact⟨⟨T,hb⟩,hlo,hV,hap⟩
 have hm:m b'=some cs:=by rw[<-hm]; simp[I00,e]
 exact hc.reg.at_ r ty m hg b' cs hm
theorem u0n{P:Program}(w:World)(t ty e:TypeId)(i:TypeInfo)(ht:P.underlying t=some (.slice e))(hi:P.info? e=some i)
 (g off sLen sCap:Nat) (T:TypeId) (cur:Array Value) (hg:w.heap[g]?=some (.cells cur T (0,0)))
 (a:Addr) (m c:Nat) (news:List Value) (hl:news.length=m*i.size) (hnews:∀j u,news[j]?=some u->w.cell? (a.add j)=some u) (h1:∀u∈news,u.oneCell'=true)
 (hroom:sLen+m<=sCap) (hfit:off+sLen*i.size+news.length<=cur.size) :
 (Builtin.append_ #[t,t] ty #[.slice (some ⟨g,off,none⟩) sLen sCap,.slice (some a) m c]).run P w =
   .ok (.slice (some ⟨g,off,none⟩) (sLen+m) sCap) (w.setRow g (cur.toList.take (off+sLen*i.size)++news++cur.toList.drop (off+sLen*i.size+news.length)).toArray):=by
 have hf:=run_firstCells_some (P:=P) w i.size m a m c news hl hnews;have hst:=run_storeCells_at P g (off+sLen*i.size) T news 0 cur w hg (by simpa using hfit) h1;simp only[Dm]at hst;simp[Builtin.append_,run_underlying ht,sizeOf,typeInfo,hi,Builtin.lenOf,hroom,hf,Addr.add_lit,hst]
theorem Z0o{P:Program}{rt o B w0 σ V a w addr}{K:St->View->Prop}{N:Act->World->Prop}{Q:Exit->Act->World->Prop}(hc:Conc B w0 σ V a w addr)
 (hN:∀σ' V' a' w' addr',V.le V'->Conc B w0 σ' V' a' w' addr'->K σ' V'->N a' w') (h:o0g P rt o σ V K):o.wp P a w N Q:=by
 unfold o0g at h;split at h
 . rename_i t n c hop;split at h
   . rename_i e ty m he hrt;split at h
     . rename_i kn ln kc cp hn hcp;split at h
       . rename_i zs sz bs hzs hsz hbs;obtain⟨⟨h0,h1,h2,h3⟩,h⟩:=h;split at h
         . rename_i hlen;have hlen:zs.length=sz:=Aj hlen;have ht:=U05 he;unfold B0d at hzs;cases hi:P.info? e with
           | none=>simp[hi]at hzs
           | some i =>
             cases hz:i.zero with
             | none=>simp[hi,hz]at hzs
             | some z =>
               simp only[hi,hz,Fu,Aw,Ay]at hzs;simp only[Q07,hi,Aw,Ay]at hsz;simp only[i0i,hi,Aw,Ay]at hbs;subst hsz; subst hbs; subst hzs;have hrn:=hc.eval n;have hrc:=hc.eval c;rw[hn]at hrn; rw[hcp]at hrc;simp only[Rel]at hrn hrc;have hrun:=run_make (P:=P) w t e i z ht hi hz kn kc ln cp h0 h1 h2 h3;have hcells:madeCells z.cells (cp.toNat*i.size)=List.toArray (List.replicate cp.toNat z.cells.toList).flatten:=by
                rw[<-hlen]; exact L0b _ _
               rw[hcells]at hrun;unfold Oper.wp;have hex:(execOp a.eval o).run P w = .ok (.value (.slice (some ⟨w.heap.size,0,none⟩) ln.toNat cp.toNat)) (w.alloc (.cells (List.toArray (List.replicate cp.toNat z.cells.toList).flatten) e)):=by
                simp only[execOp,hop,hrn,hrc,Sem.run_bind,hrun,Result.andThen_ok,Sem.run_pure]
               rw[hex,Oper.upon_value];have hg:=N02 hrt;have hmin:m.In w:=λb cs hb=>by
                obtain⟨⟨T,hT⟩,_⟩:=hc.reg.at_ rt ty m hg b cs hb;exact⟨T,_,hT⟩
               have hVn:=hc.vin.none_new;have hmn:m w.heap.size=none:=hmin.none_new;generalize (List.replicate cp.toNat z.cells.toList).flatten=l2 at *;have hin:V.In (w.alloc (.cells l2.toArray e)):=by
                intro b cs hb';obtain⟨T,fr,hw⟩:=hc.vin b cs hb';have hlt:b<w.heap.size:=by
                 refine Em λc => ?_;rw[Au c]at hw; simp at hw
                exact⟨T,fr,by rw[heap_alloc_old _ _ _ hlt]; exact hw⟩
               have hc1:=hc.view (Gw V) hin (O05 V _) (w':=w.alloc (.cells l2.toArray e)) ⟨rfl,rfl,rfl,by simp,λj hj=>heap_alloc_old w _ j hj⟩;have hc2:=hc1.addReg hrt (b:=w.heap.size) (arr:=l2.toArray) (T:=e) (heap_alloc_new w _) (.inl hc.below.size) hVn (λj ob hj hre he=>by
                obtain⟨arr,hw,_⟩:=hc.blk j ob hj hre;rw[he]at hw; simp at hw)
               exact hN _ V _ _ addr (Gw V) (hc2.put o.dst (s := .val _) rfl) (h _ hmn hVn)
         exact h.elim
       exact h.elim
     exact h.elim
   exact h.elim
 exact h.elim
theorem y0r{P:Program}{rt o B w0 σ V a w addr}{K:St->View->Prop}{N:Act->World->Prop}{Q:Exit->Act->World->Prop}(hc:Conc B w0 σ V a w addr)
 (hN:∀σ' V' a' w' addr',V.le V'->Conc B w0 σ' V' a' w' addr'->K σ' V'->N a' w') (h:m0l P rt o σ V K):o.wp P a w N Q:=by
 unfold m0l at h;split at h
 . rename_i x y e sz bs ty m hq hrt;obtain⟨t,i,z,hop,ht,hi,hz,hsize,hby,hzs,h1⟩:=s0g hq;have hx:=hc.eval x;have hy:=hc.eval y;have hg:=N02 hrt;have hmin:m.In w:=λb cs hb=>by
    obtain⟨⟨T,hT⟩,_⟩:=hc.reg.at_ rt ty m hg b cs hb;exact⟨T,_,hT⟩
   have h2c:∀ {A:Addr} {l:List Value},has2 m V (some A) l->∀j v,l[j]?=some v->w.cell? (A.add j)=some v:=λh=>h.elim (Q0d hmin) (Q0d hc.vin)
   have h2n:∀ {l:List Value},has2 m V none l->l=[]:=by
    intro l h;cases l with
    | nil=>rfl
    | cons v l=>exact h.elim (λg=>by have:=g 0 v rfl; simp[View.load]at this) (λg=>by have:=g 0 v rfl; simp[View.load]at this)
   split at h
   . rename_i ax n c ay k cy ex ey;rw[ex]at hx; rw[ey]at hy;simp only[Rel]at hx hy;obtain⟨xs,vs,⟨hnc,hnil⟩,hxs,hxl,hvs,hvl,hone,h63,hb,hroom0,hall⟩:=h;have hk0:k=0->K (σ.put o.dst (.val (.slice ax n c))) V:=by
      rintro rfl;have:=hall ax c m (.inl ⟨rfl,rfl,rfl,rfl⟩);rw[m00 hrt]at this;exact this
     have hroom:k≠0->n+k<=c->∃(b off:Nat) (cs:List Value),ax=some ⟨b,off,none⟩/\m b=some cs.toArray/\off+(n+k)*sz<=cs.length /\
      K ((σ.setOwn rt (some ⟨ty,.reg (I00 m b (setL cs (off+n*sz) vs).toArray)⟩)).put o.dst (.val (.slice ax (n+k) c))) V:=by
      intro h1 h2;obtain⟨b,off,cs,e1,e2,e3⟩:=hroom0 h1 h2;exact⟨b,off,cs,e1,e2,e3,hall ax c _ (.inr (.inl ⟨h1,h2,rfl,rfl,b,off,cs,e1,e2,e3,rfl⟩))⟩
     have hgrow:k≠0->c<n+k->∀(b rc:Nat) (l:List Value),m b=none->V b=none->G02 sz (n+k) rc l (xs++vs) ->
      K ((σ.setOwn rt (some ⟨ty,.reg (I00 m b l.toArray)⟩)).put o.dst (.val (.slice (some ⟨b,0,none⟩) (n+k) rc))) V:=λh1 h2 b rc l e1 e2 e3 =>
      hall _ rc _ (.inr (.inr ⟨h1,h2,b,l,e1,e2,e3,rfl,rfl⟩))
     have hml:n+k<=9223372036854775807:=by simp only[maxLen]at h63; omega
     unfold Oper.wp;by_cases hk:k=0
     . subst hk;have hr:=f05 (P:=P) (ρ:=a.eval) (w:=w) hop (by rw[hx,hy]; exact Y0a w t o.type e i ht hi ax n c ay cy hnc);rw[hr,Oper.upon_value];exact hN _ V _ _ addr (Gw V) (hc.put o.dst (s := .val _) rfl) (hk0 rfl)
     have hks:k*sz≠0:=Bz hk (by omega);cases ay with
     | none =>
       exfalso;have h0:=h2n hvs;subst h0;exact hks (by simpa using hvl.symm)
     | some A =>
       have hnews:=h2c hvs;by_cases hfit:n+k<=c
       . obtain⟨b,off,cs,rfl,hm,hle,hK⟩:=hroom hk hfit;obtain⟨⟨T,hT⟩,_⟩:=hc.reg.at_ rt ty m hg b _ hm;have hf:off+n*sz+vs.length<=cs.length:=by rw[hvl,Ej,<-Bb]; exact hle
         have hrun:=u0n (P:=P) w t o.type e i ht hi b off n c T cs.toArray hT A k cy vs (by rw[hsize]; exact hvl) hnews hone hfit (by rw[hsize]; simpa using hf);have hr:=f05 (P:=P) (ρ:=a.eval) (w:=w) hop (by rw[hx,hy]; exact hrun);rw[hr,Oper.upon_value];refine hN _ V _ _ addr (Gw V) ((hc.wrReg hrt (arr:=(cs.toArray.toList.take (off+n*i.size)++vs++cs.toArray.toList.drop (off+n*i.size+vs.length)).toArray) hm).put o.dst (s := .val _) rfl) ?_;rw[t0h _ _ _ hf]at hK;simp only[hsize];exact hK
       have hnew:∀(cells:Array Value) (c2:Nat) (l2:List Value),cells=l2.toArray->G02 sz (n+k) c2 l2 (xs++vs) ->
           (execOp a.eval o).run P w = .ok (.value (.slice (some ⟨w.heap.size,0,none⟩) (n+k) c2)) (w.drew.alloc (.cells cells e))->Oper.upon P o a N Q ((execOp a.eval o).run P w):=by
         intro cells c2 l2 hl hok hr;subst hl;rw[hr,Oper.upon_value];have hVn:=hc.vin.none_new;have hmn:m w.heap.size=none:=hmin.none_new;have hin:V.In (w.drew.alloc (.cells l2.toArray e)):=by
          intro b cs hb';obtain⟨T,fr,hw⟩:=hc.vin b cs hb';have hlt:b<w.drew.heap.size:=by
           refine Em λc => ?_;have c:w.heap.size<=b:=c;rw[Au c]at hw; simp at hw
          exact⟨T,fr,by rw[heap_alloc_old _ _ _ hlt]; exact hw⟩
         have hc1:=hc.view (Gw V) hin (O05 V _) (w':=w.drew.alloc (.cells l2.toArray e)) ⟨rfl,rfl,rfl,by show w.drew.heap.size<=_; simp[-World.drew_eq],λj hj=>heap_alloc_old w.drew _ j hj⟩;have hc2:=hc1.addReg hrt (b:=w.heap.size) (arr:=l2.toArray) (T:=e) (heap_alloc_new w.drew _) (.inl hc.below.size) hVn (λj ob hj hre he=>by
          obtain⟨arr,hw,_⟩:=hc.blk j ob hj hre;rw[he]at hw; simp at hw)
         exact hN _ V _ _ addr (Gw V) (hc2.put o.dst (s := .val _) rfl) (hgrow hk (by omega) _ _ l2 hmn hVn hok)
       cases ax with
       | none =>
         have hx0:=h2n hxs;subst hx0;have hn0:n=0:=by
          rcases Ap n with h0|h0
          . exact h0
          have:=Bz (Nat.ne_of_gt h0) (by omega:sz≠0); simp at hxl; omega
         subst hn0;have hc0:c=0:=hnil rfl;subst hc0
         skip
         have hrun:=run_append_nil (P:=P) w t o.type e i z ht hi hz A k cy vs (by rw[hsize]; exact hvl) hnews (by omega) (by omega) (by rw[hby]; rw[Am]at hb; omega);have hr:=f05 (P:=P) (ρ:=a.eval) (w:=w) hop (by rw[hx,hy]; exact hrun);obtain⟨l2,hl1,hl2,hl3⟩:=P06 [] vs z.cells (grownCap w k 0 e-k);have hge:=grownCap_ge w k 0 e;refine hnew (vs.toArray++Builtin.zeroCells z.cells (grownCap w k 0 e-k)) (grownCap w k 0 e) l2 (by rw[<-hl1]; simp) ⟨by rw[Am]; exact hge,?_,?_⟩ (by rw[Am]; exact hr)
         . rw[hl2,hzs,hvl]; simp only[Dy,Am]at hge ⊢;rw[<-Bb]; congr 1; omega
         simp only[Dy,Am,Ef]at hl3 ⊢;rw[<-hvl]; exact hl3
       | some A0 =>
         have hrun:=run_append_grow (P:=P) w t o.type e i z ht hi hz A0 n c xs (by rw[hsize]; exact hxl) (h2c hxs) A k cy vs (by rw[hsize]; exact hvl) hnews (by omega) (by omega) (by rw[hby]; exact growslice_fits (by omega) hb);have hr:=f05 (P:=P) (ρ:=a.eval) (w:=w) hop (by rw[hx,hy]; exact hrun);obtain⟨l2,hl1,hl2,hl3⟩:=P06 xs vs z.cells (grownCap w (n+k) c e-(n+k));have hge:=grownCap_ge w (n+k) c e;refine hnew _ _ l2 hl1 ⟨hge,?_,?_⟩ hr
         . rw[hl2,hzs,hxl,hvl,<-Bb,<-Bb]; congr 1; omega
         rw[Bb,<-hxl,<-hvl]; exact hl3
   exact h.elim
 exact h.elim
theorem p0u(id:Nat)(o:Option OB):kind (p0g id o)=kind o:=by
 cases o with
 | none=>rfl
 | some ob=>obtain⟨ty,cs⟩:=ob; cases cs<;>rfl
theorem Rel.kill{addr:Nat->Nat}{own:List (Option OB)}{id:Nat}{s:SV}{x:Value}(h:Rel addr own s x):Rel addr own (O06 id s) x:=by
 cases s with
 | lst i n c => simp only [O06]; split
                . trivial
                exact h
 | tlst i n c r => simp only [O06]; split
                   . trivial
                   exact h
 | les i n c => simp only [O06]; split
                . trivial
                exact h
 | _=>exact h
def noL(id:Nat)(s:SV):Prop:=(∀n c,s ≠ .lst id n c)/\(∀n c r,s ≠ .tlst id n c r)/\∀n c,s ≠ .les id n c
theorem i0j(id:Nat)(s:SV):noL id (O06 id s):=by
 refine⟨λn c => ?_,λn c r' => ?_,λn c => ?_⟩
 . cases s with
   | lst i m d => simp only [O06]; split
                  . simp
                  rename_i hne; intro e; cases e; exact hne rfl
   | tlst i m d r=>simp only[O06]; split<;>simp
   | les i m d=>simp only[O06]; split<;>simp
   | _=>simp[O06]
 . cases s with
   | lst i m d=>simp only[O06]; split<;>simp
   | tlst i m d r => simp only [O06]; split
                     . simp
                     rename_i hne; intro e; cases e; exact hne rfl
   | les i m d=>simp only[O06]; split<;>simp
   | _=>simp[O06]
 cases s with
 | lst i m d=>simp only[O06]; split<;>simp
 | tlst i m d r=>simp only[O06]; split<;>simp
 | les i m d => simp only [O06]; split
                . simp
                rename_i hne; intro e; cases e; exact hne rfl
 | _=>simp[O06]
theorem Conc.kill{B w0 σ V a w addr}(hc:Conc B w0 σ V a w addr)(id:Nat):Conc B w0 (σ.kill id) V a w addr:=by
 have hget:∀i,(σ.kill id).own.getD i none=p0g id (σ.own.getD i none):=by
  intro i;simp only[St.kill,List.getD,Cd];cases σ.own[i]?<;>rfl
 have hk:∀i,kind ((σ.kill id).own.getD i none)=kind (σ.own.getD i none):=λi=>by rw[hget,p0u]
 have hmono:∀i,kind (σ.own.getD i none)≠0->kind ((σ.kill id).own.getD i none)=kind (σ.own.getD i none)/\addr i=addr i:=λi _=>⟨hk i,rfl⟩
 have hold:∀i ob',(σ.kill id).own.getD i none=some ob'->ob'.cs.real->∃ob0,σ.own.getD i none=some ob0/\ob'=⟨ob0.ty,N0f id ob0.cs⟩/\ob0.cs.real:=by
  intro i ob' h hre;rw[hget]at h;obtain⟨ob0,h0,rfl⟩:=Bg.1 h;refine⟨ob0,h0,rfl,?_⟩;obtain⟨ty,cs⟩:=ob0;cases cs with
  | fixed l=>trivial
  | dyn l=>trivial
  | list l=>exact hre
  | reg m=>exact hre
 refine⟨by simp[St.kill,hc.size],by simp[St.kill,hc.osize],λi hi => ?_,hc.defers,λi ob' h hre => ?_,λi ob' h hre => ?_,λp hp=>⟨(hc.lent p hp).1,by rw[hk]; exact(hc.lent p hp).2⟩,λi ob' h hre => ?_,
  λi i' ob1 ob2 h1 h2 hr1 hr2 => ?_,hc.vin,hc.below,hc.fresh,
  hc.reg.step (λi ty m h => ?_) (λ_ _ _=>rfl) (λ_ _ h => .inl h) (λi ob' h hre => ?_)⟩
 . have hi':i<σ.tm.length:=by simpa [St.kill]using hi
   have:=(Gy hmono (hc.rel i hi')).kill (id:=id);simpa [St.kill,List.getD,hi']using this
 . obtain⟨ob0,h0,rfl,hre0⟩:=hold i ob' h hre;obtain⟨arr',hw',hb'⟩:=hc.blk i ob0 h0 hre0;refine⟨arr',hw',?_⟩;obtain⟨ty,cs⟩:=ob0;cases cs with
   | dyn l'=>exact hb'
   | list l'=>exact hb'
   | reg m=>exact hb'
   | fixed l' =>
     refine⟨by simpa using hb'.1,λj hj => ?_⟩;have hj':j<l'.length:=by simpa using hj
     have:=(Gy hmono (hb'.2 j hj')).kill (id:=id);simpa [List.getD,hj']using this
 . obtain⟨ob0,h0,_,hre0⟩:=hold i ob' h hre;exact hc.lo i ob0 h0 hre0
 . obtain⟨ob0,h0,_,hre0⟩:=hold i ob' h hre;exact hc.out i ob0 h0 hre0
 . obtain⟨ob1',h1',_,hr1'⟩:=hold i ob1 h1 hr1;obtain⟨ob2',h2',_,hr2'⟩:=hold i' ob2 h2 hr2;exact hc.inj i i' ob1' ob2' h1' h2' hr1' hr2'
 . rw[hget]at h;obtain⟨ob0,h0,e0⟩:=Bg.1 h;obtain⟨ty0,cs0⟩:=ob0;cases cs0 with
   | fixed l=>simp[N0f]at e0
   | dyn l=>simp[N0f]at e0
   | list l=>simp[N0f]at e0
   | reg m'=>rw[h0]; simp only[N0f]at e0; rw[<-e0]
 obtain⟨ob0,h0,_,hre0⟩:=hold i ob' h hre;exact .inl ⟨i,ob0,h0,hre0,rfl⟩
theorem Conc.moveBlk{B w0 σ V a w addr}(hc:Conc B w0 σ V a w addr){id:Nat}{e:TypeId}{l0:List Value}(hid:σ.own[id]?=some (some ⟨e,.list l0⟩))(hno:∀s∈σ.tm,noL id s)
 (hno2:∀ty l,some ⟨ty,.fixed l⟩∈σ.own->∀s∈l,noL id s) (l:List Value) :
 Conc B w0 (σ.setOwn id (some ⟨e,.list l⟩)) V a (w.drew.alloc (.cells l.toArray e)) (λi=>if i=id then w.heap.size else addr i):=by
 have hg:=N02 hid;have hlt:id<σ.own.length:=by
  rcases Ad id σ.own.length with h|h
  . exact h
  rw[Ab h]at hid; simp at hid
 have hget:∀i,(σ.setOwn id (some ⟨e,.list l⟩)).own.getD i none=if i=id then some ⟨e,.list l⟩else σ.own.getD i none:=by
  intro i;simp only[St.setOwn,List.getD,As];by_cases e':id=i
  . subst e'; simp[hlt]
  have e'':¬i=id:=λx=>e' x.symm
  simp[e',e'']
 have hkid:kind (σ.own.getD id none)=2:=by rw[hg]; rfl
 have hk:∀i,kind ((σ.setOwn id (some ⟨e,.list l⟩)).own.getD i none)=kind (σ.own.getD i none):=by
  intro i; rw[hget]; split
  . rename_i h; subst h; rw[hg]; rfl
  rfl
 have hrel:∀ {s:SV} {x:Value},noL id s->Rel addr σ.own s x->Rel (λi=>if i=id then w.heap.size else addr i) (σ.setOwn id (some ⟨e,.list l⟩)).own s x:=by
  intro s x hn h;have h1:∀ {i},kind (σ.own.getD i none)=1->i≠id:=by rintro i h rfl; rw[hkid]at h; simp at h
  cases s with
  | val v=>exact h
  | lit b=>exact h
  | own i off=>exact⟨by rw[hk]; exact h.1,by simp only[h1 h.1,At9]; exact h.2⟩
  | osl i off len cap=>exact⟨by rw[hk]; exact h.1,by simp only[h1 h.1,At9]; exact h.2⟩
  | clo f ids =>
    refine⟨λi hi=>by rw[hk]; exact h.1 i hi,?_⟩;rw[h.2];congr 2;exact Ch λi hi=>by simp only[h1 (h.1 i hi),At9]
  | lst i n c =>
    have hne:i≠id:=by rintro rfl; exact hn.1 n c rfl
    exact⟨by rw[hk]; exact h.1,by simp only[hne,At9]; exact h.2⟩
  | tlst i n c r =>
    have hne:i≠id:=by rintro rfl; exact hn.2.1 n c r rfl
    exact⟨by rw[hk]; exact h.1,by simp only[hne,At9]; exact h.2⟩
  | les i n c =>
    have hne:i≠id:=by rintro rfl; exact hn.2.2 n c rfl
    exact⟨by rw[hk]; exact h.1,by simp only[hne,At9]; exact h.2⟩
  | any=>trivial
 have hltw:∀i ob',σ.own.getD i none=some ob'->ob'.cs.real->addr i<w.heap.size:=by
  intro i ob' h hre;obtain⟨arr',hw,_⟩:=hc.blk i ob' h hre;rcases Ad (addr i) w.heap.size with h|h
  . exact h
  rw[Au h]at hw; simp at hw
 have hsz:w.drew.heap.size=w.heap.size:=rfl;have hnew:(w.drew.alloc (.cells l.toArray e)).heap[w.heap.size]?=some (.cells l.toArray e (0,0)):=heap_alloc_new w.drew _;have hold:∀b,b<w.heap.size->(w.drew.alloc (.cells l.toArray e)).heap[b]?=w.heap[b]?:=λb hb=>heap_alloc_old w.drew _ _ hb
 refine⟨hc.size,by simp[St.setOwn,hc.osize],λi hi => ?_,hc.defers,?_,?_,?_,?_,?_,?_,?_,hc.fresh,
  hc.reg.step (λi ty m h => ?_) (λb hb' _=>hold b hb') (λ_ _ h => .inl h) (λi ob' h hre => ?_)⟩
 . have hi':i<σ.tm.length:=hi;refine hrel (hno _ ?_) (hc.rel i hi);show(σ.setOwn id _).tm.getD i .any∈σ.tm; simp[St.setOwn,List.getD,hi']
 . intro i ob' h hre;rw[hget]at h;split at h
   . rename_i e'; cases h; subst e';exact⟨l.toArray,by simp only[Az]; exact hnew,rfl⟩
   rename_i e';obtain⟨arr',hw,hb'⟩:=hc.blk i ob' h hre;have:=hltw _ _ h hre;refine⟨arr',by simp only[e',At9]; rw[hold _ this]; exact hw,?_⟩;obtain⟨ty,cs⟩:=ob';cases cs with
   | dyn l'=>exact hb'
   | list l'=>exact hb'
   | reg m=>exact hb'
   | fixed l' =>
     refine⟨hb'.1,λj hj=>hrel (hno2 ty l' ?_ _ ?_) (hb'.2 j hj)⟩
     . have hil:i<σ.own.length:=by
         rcases Ad i σ.own.length with h'|h'
         . exact h'
         simp[List.getD,Ab h']at h
       have:σ.own[i]=some ⟨ty,.fixed l'⟩:=by simpa [List.getD,hil]using h
       rw[<-this]; exact Ax _
     simp[List.getD,hj]
 . intro i ob' h hre;rw[hget]at h;split at h
   . rename_i e'; simp only[e',Az]; exact .inl hc.below.size
   rename_i e'; simp only[e',At9]; exact hc.lo i ob' h hre
 . intro p hp;obtain⟨h1,h2⟩:=hc.lent p hp;have hne:p.1≠id:=by intro h; rw[h,hkid]at h2; simp at h2
   exact⟨by simp only[hne,At9]; exact h1,by rw[hk]; exact h2⟩
 . intro i ob' h hre;rw[hget]at h;split at h
   . rename_i e'; simp only[e',Az]; exact hc.vin.none_new
   rename_i e'; simp only[e',At9]; exact hc.out i ob' h hre
 . intro i i' ob1 ob2 h1 h2 hr1 hr2 he;rw[hget]at h1 h2;by_cases e1:i=id<;>by_cases e2:i'=id
   . exact e1.trans e2.symm
   . simp only[e1,e2,Az,At9]at he h2;have:=hltw _ _ h2 hr2; omega
   . simp only[e1,e2,Az,At9]at he h1;have:=hltw _ _ h1 hr1; omega
   simp only[e1,e2,At9]at he h1 h2;exact hc.inj _ _ _ _ h1 h2 hr1 hr2 he
 . intro b cs hb';obtain⟨T,fr,hw⟩:=hc.vin b cs hb';refine⟨T,fr,?_⟩;have:b<w.heap.size:=by
    rcases Ad b w.heap.size with h|h
    . exact h
    rw[Au h]at hw; simp at hw
   rw[hold _ this]; exact hw
 . exact hc.below.drew.alloc _
 . rw[hget]at h;split at h
   . exact absurd h (by simp)
   exact h
 rw[hget]at h;split at h
 . rename_i e'; simp only[e',Az]; exact .inr (An9 _)
 rename_i e'; simp only[e',At9]; exact .inl ⟨i,ob',h,hre,rfl⟩
theorem i0t{P:Program}{o:Oper}{B w0 σ V a w addr}{K:St->View->Prop}{N:Act->World->Prop}{Q:Exit->Act->World->Prop}(hc:Conc B w0 σ V a w addr)
 (hN:∀σ' V' a' w' addr',V.le V'->Conc B w0 σ' V' a' w' addr'->K σ' V'->N a' w') {x y:Operand} {t e':TypeId} {i:TypeInfo} {z:Value} {sz bs n cap m cy i':Nat} {ay A0:Option Addr} {l:List Value}
 (hop:o.op = .call { callee := .builtin .append,args:=#[x,y],argTypes:=#[t,t] }) (ht:P.underlying t=some (.slice e')) (hi:P.info? e'=some i) (hz:i.zero=some z) (hsize:i.size=sz) (hby:i.bytes=bs) (hzs:z.cells.size=sz) (h1:1<=sz)
 (mk:Nat->Nat->SV) (hx:a.eval x = .slice A0 n cap) (hA:cap≠0->A0=some ⟨addr i',0,none⟩) (hy:a.eval y = .slice ay m cy)
 (hmk0:∀own:List (Option OB),kind (own.getD i' none)=2->Rel addr own (mk n cap) (.slice A0 n cap))
 (hmk:∀(own:List (Option OB)) (addr':Nat->Nat) (n' c':Nat),kind (own.getD i' none)=2->c'≠0->Rel addr' own (mk n' c') (.slice (some ⟨addr' i',0,none⟩) n' c'))
 (hid:σ.own[i']?=some (some ⟨e',.list l⟩))
 (h:∃xs vs:List Value,G02 sz n cap l xs/\V.has ay vs/\vs.length=m*sz/\(∀v∈vs,v.oneCell'=true)/\n+m<=maxLen/\(n+m)*bs<=140737488355328 /\
     ∀(cap':Nat) (l':List Value),G02 sz (n+m) cap' l' (xs++vs)->K (((σ.kill i').setOwn i' (some ⟨e',.list l'⟩)).put o.dst (mk (n+m) cap')) V):o.wp P a w N Q:=by
 obtain⟨xs,vs,hok,hvs,hvl,hone,h63,hb,h⟩:=h;have hml:n+m<=9223372036854775807:=by simp only[maxLen]at h63; omega
 have hxl:xs.length=n*sz:=by
  rw[<-hok.take,Dk,hok.len];exact Cj (Ag _ hok.le)
 have hck:=hc.kill i';have hidk:(σ.kill i').own[i']?=some (some ⟨e',.list l⟩):=by
  simp only[St.kill,Cd,hid]; rfl
 have hnol:∀s∈(σ.kill i').tm,noL i' s:=by
  intro s hs;obtain⟨s0,_,rfl⟩:=Bc.1 hs;exact i0j i' s0
 have hnol2:∀ty l,some ⟨ty,.fixed l⟩∈(σ.kill i').own->∀s∈l,noL i' s:=by
  intro ty l' hl s hs;obtain⟨o0,_,ho0⟩:=Bc.1 hl;obtain⟨ob0,rfl,hob⟩:=Bg.1 ho0;obtain⟨ty0,cs0⟩:=ob0;cases cs0 with
  | fixed l0 =>
    simp only[N0f,OB.mk.injEq,Cs.fixed.injEq]at hob;rw[<-hob.2]at hs;obtain⟨s0,_,rfl⟩:=Bc.1 hs;exact i0j i' s0
  | dyn l0=>simp[N0f]at hob
  | list l0=>simp[N0f]at hob
  | reg l0=>simp[N0f]at hob
 unfold Oper.wp;by_cases hm:m=0
 . subst hm;have hv0:vs=[]:=Cx (by simpa using hvl);subst hv0;have hr:=f05 (P:=P) (ρ:=a.eval) (w:=w) hop (by rw[hx,hy]; exact Y0a w t o.type e' i ht hi _ n cap ay cy hok.le);rw[hr,Oper.upon_value];have hk:=h cap l ⟨hok.le,hok.len,by simpa using hok.take⟩;rw[m00 hidk]at hk;refine hN _ V _ _ addr (Gw V) (hck.put o.dst (s:=mk (n+0) cap) ?_) hk;exact hmk0 _ (by rw[N02 hidk]; rfl)
 have hms:m*sz≠0:=Bz hm (by omega);cases ay with
 | none =>
   cases vs with
   | nil=>simp at hvl; omega
   | cons v l=>have:=hvs 0 v rfl; simp[View.load]at this
 | some A =>
   have hnews:=Q0d hc.vin hvs;by_cases hroom:n+m<=cap
   ·
     have hc0:cap≠0:=by omega
     have hreal:(⟨e',.list l⟩:OB).cs.real:=by
      show l≠[];intro e0;have:=hok.len;rw[e0]at this;have:=Bz hc0 (by omega:sz≠0);simp at *; omega
     obtain⟨arr,hw,hba⟩:=hck.blk i' _ (N02 hidk) hreal;simp only[X06]at hba;subst hba;have hle1:(n+m)*sz<=cap*sz:=Ag _ hroom;have hfit:n*i.size+vs.length<=l.toArray.size:=by
      rw[hsize,hvl,<-Bb]; simp[hok.len]; exact hle1
     have hrun:=run_append_room (P:=P) w t o.type e' i ht hi (addr i') n cap l.toArray hw A m cy vs (by rw[hsize]; exact hvl) hnews hone hroom hfit;have hr:=f05 (P:=P) (ρ:=a.eval) (w:=w) hop (by rw[hx,hy,hA hc0]; exact hrun);rw[hr,Oper.upon_value];have hl':G02 sz (n+m) cap (l.toArray.toList.take (n*i.size)++vs++l.toArray.toList.drop (n*i.size+vs.length)) (xs++vs):=by
      have hlen:=hok.len;have htk:l.take (n*sz)=xs:=hok.take;simp only[hsize];refine⟨hroom,?_,?_⟩
      . simp only[Be,Dk,Fw,hlen,hvl];have:=Ag sz hok.le;rw[Bb]at hle1;omega
      rw[htk,Bb,<-hxl,<-hvl,<-Be]; exact List.take_left
     refine hN _ V _ _ addr (Gw V) ((hck.wrBlk hidk hreal (.list (l.toArray.toList.take (n*i.size)++vs++l.toArray.toList.drop (n*i.size+vs.length))) rfl (l.toArray.toList.take (n*i.size)++vs++l.toArray.toList.drop (n*i.size+vs.length)).toArray rfl).put o.dst (s:=mk (n+m) cap) ?_) (h cap _ hl');have:=hmk ((σ.kill i').setOwn i' (some ⟨e',.list (l.toArray.toList.take (n*i.size)++vs++l.toArray.toList.drop (n*i.size+vs.length))⟩)).own addr (n+m) cap ?_ hc0
     . rw[hA hc0]at *; exact this
     simp only[St.setOwn,List.getD,As,Az];have hlt:i'<(σ.kill i').own.length:=by
      rcases Ad i' (σ.kill i').own.length with h|h
      . exact h
      rw[Ab h]at hidk; simp at hidk
     simp[hlt]
   ·
     have fin:∀(cells:Array Value) (c2:Nat),n+m<=c2->(∃l2:List Value,cells=l2.toArray/\l2.length=c2*sz/\l2.take ((n+m)*sz)=xs++vs) ->
      (execOp a.eval o).run P w = .ok (.value (.slice (some ⟨w.heap.size,0,none⟩) (n+m) c2)) (w.drew.alloc (.cells cells e'))->Oper.upon P o a N Q ((execOp a.eval o).run P w):=by
      intro cells c2 hcap ⟨l2,hl,hlen2,htake⟩ hr;subst hl;rw[hr,Oper.upon_value];have hc0:c2≠0:=by omega
      refine hN _ V _ _ _ (Gw V) ((hck.moveBlk hidk hnol hnol2 l2).put o.dst (s:=mk (n+m) c2) ?_) (h c2 l2 ⟨hcap,hlen2,htake⟩);have:=hmk ((σ.kill i').setOwn i' (some ⟨e',.list l2⟩)).own (λi=>if i=i' then w.heap.size else addr i) (n+m) c2 ?_ hc0
      . simpa using this
      simp only[St.setOwn,List.getD,As,Az];have hlt:i'<(σ.kill i').own.length:=by
       rcases Ad i' (σ.kill i').own.length with h|h
       . exact h
       rw[Ab h]at hidk; simp at hidk
      simp[hlt]
     by_cases hc0:cap=0
     . have hn0:n=0:=by have:=hok.le; omega
       subst hn0; subst hc0;have hx0:xs=[]:=Cx (by simpa using hxl);subst hx0;cases A0 with
       | none =>
         have hrun:=run_append_nil (P:=P) w t o.type e' i z ht hi hz A m cy vs (by rw[hsize]; exact hvl) hnews (by omega) (by omega) (by rw[hby]; rw[Am]at hb; omega);have hr:=f05 (P:=P) (ρ:=a.eval) (w:=w) hop (by rw[hx,hy]; exact hrun);obtain⟨l2,hl1,hl2,hl3⟩:=P06 [] vs z.cells (grownCap w m 0 e'-m);have hge:=grownCap_ge w m 0 e';refine fin (vs.toArray++Builtin.zeroCells z.cells (grownCap w m 0 e'-m)) (grownCap w m 0 e') (by rw[Am]; exact hge) ⟨l2,by rw[<-hl1]; simp,?_,?_⟩ (by rw[Am]; exact hr)
         . rw[hl2,hzs,hvl]; simp only[Dy,Am]at hge ⊢;rw[<-Bb]; congr 1; omega
         simp only[Dy,Am,Ef]at hl3;rw[Am,<-hvl]; simpa using hl3
       | some A1 =>
         have hrun:=run_append_grow (P:=P) w t o.type e' i z ht hi hz A1 0 0 [] (by simp) (by intro j v hv; simp at hv) A m cy vs (by rw[hsize]; exact hvl) hnews (by omega) (by omega) (by rw[hby]; exact growslice_fits (by omega) hb);have hr:=f05 (P:=P) (ρ:=a.eval) (w:=w) hop (by rw[hx,hy]; exact hrun);obtain⟨l2,hl1,hl2,hl3⟩:=P06 [] vs z.cells (grownCap w (0+m) 0 e'-(0+m));have hge:=grownCap_ge w (0+m) 0 e';refine fin _ _ hge ⟨l2,hl1,?_,?_⟩ hr
         . rw[hl2,hzs,hvl]; simp only[Dy,Am]at hge ⊢;rw[<-Bb]; congr 1; omega
         simp only[Dy,Am,Ef]at hl3;rw[Am,<-hvl]; simpa using hl3
     have hreal:(⟨e',.list l⟩:OB).cs.real:=by
       show l≠[];intro e0;have:=hok.len;rw[e0]at this;have:=Bz hc0 (by omega:sz≠0);simp at *; omega
     obtain⟨arr,hw,hba⟩:=hck.blk i' _ (N02 hidk) hreal;simp only[X06]at hba;subst hba;have holds:∀j v,xs[j]?=some v->w.cell? ((⟨addr i',0,none⟩:Addr).add j)=some v:=by
      intro j v hv;have hadd:(⟨addr i',0,none⟩:Addr).add j=⟨addr i',j,none⟩:=by unfold Addr.add; split<;>simp_all
      rw[hadd,cell_of_row w (addr i') j l.toArray e' (0,0) hw];rw[<-hok.take,Gq]at hv;split at hv
      . simpa using hv
      cases hv
     have hrun:=run_append_grow (P:=P) w t o.type e' i z ht hi hz ⟨addr i',0,none⟩ n cap xs (by rw[hsize]; exact hxl) holds A m cy vs (by rw[hsize]; exact hvl) hnews (by omega) (by omega) (by rw[hby]; exact growslice_fits (by omega) hb);have hr:=f05 (P:=P) (ρ:=a.eval) (w:=w) hop (by rw[hx,hy,hA hc0]; exact hrun);obtain⟨l2,hl1,hl2,hl3⟩:=P06 xs vs z.cells (grownCap w (n+m) cap e'-(n+m));have hge:=grownCap_ge w (n+m) cap e';refine fin _ _ hge ⟨l2,hl1,?_,?_⟩ hr
     . rw[hl2,hzs,hxl,hvl,<-Bb,<-Bb]; congr 1; omega
     rw[Bb,<-hxl,<-hvl]; exact hl3
theorem q0u{P:Program}{id:Nat}{o B w0 σ V a w addr}{K:St->View->Prop}{N:Act->World->Prop}{Q:Exit->Act->World->Prop}(hc:Conc B w0 σ V a w addr)
 (hN:∀σ' V' a' w' addr',V.le V'->Conc B w0 σ' V' a' w' addr'->K σ' V'->N a' w') (h:appT P id o σ V K):o.wp P a w N Q:=by
 unfold appT at h;split at h
 . rename_i x y e sz bs hq;obtain⟨t,i,z,hop,ht,hi,hz,hsize,hby,hzs,h1⟩:=s0g hq;have hx:=hc.eval x;have hy:=hc.eval y;split at h
   . rename_i i' n cap ay m cy e' l ex ey hid;rw[ex]at hx; rw[ey]at hy;simp only[Rel]at hx hy;split at h
     . rename_i hii hee;have hii:=Aj hii;have hee:=Aj hee;subst hii; subst hee;refine i0t hc hN hop ht hi hz hsize hby hzs h1 (.lst i') hx.2 (λhc0=>if_neg hc0) hy (λown hk=>⟨hk,rfl⟩) (λown addr' n' c' hk hc0=>⟨hk,by rw[if_neg hc0]⟩) hid h
     exact h.elim
   . rename_i i' n cap ay m cy e' l ex ey hid;rw[ex]at hx; rw[ey]at hy;simp only[Rel]at hx hy;split at h
     . rename_i hii hee;have hii:=Aj hii;have hee:=Aj hee;subst hii; subst hee;refine i0t hc hN hop ht hi hz hsize hby hzs h1 (.les i') hx.2 (λ_=>rfl) hy (λown hk=>⟨hk,rfl⟩) (λown addr' n' c' hk _=>⟨hk,rfl⟩) hid h
     exact h.elim
   exact h.elim
 exact h.elim
theorem Conc.gain{B w0 σ V a w addr}(hc:Conc B w0 σ V a w addr){id:Nat}(hid:σ.own[id]?=some none)(e:TypeId)(l:List Value)(b:Nat)
 (cs:Cs) (hcs:cs = .list l\/(cs = .dyn l/\l≠[]))
 (hb:l≠[]->w0.w.heap.size<=b/\w.heap[b]?=some (.cells l.toArray e (0,0))/\V b=none/\∀i ob,σ.own.getD i none=some ob->ob.cs.real->addr i≠b)
 (hrg:l≠[]->∀i ty m,σ.own.getD i none=some ⟨ty,.reg m⟩->m b=none) :
 Conc B w0 (σ.setOwn id (some ⟨e,cs⟩)) V a w (λi=>if i=id then b else addr i):=by
 have hbk:∀own',X06 (λi=>if i=id then b else addr i) own' cs l.toArray:=by
  intro own';rcases hcs with rfl|⟨rfl,_⟩<;>rfl
 replace hrg:cs.real->∀i ty m,σ.own.getD i none=some ⟨ty,.reg m⟩->m b=none:=by
  intro h;rcases hcs with rfl|⟨rfl,h0⟩
  . exact hrg h
  exact hrg h0
 replace hb:cs.real->w0.w.heap.size<=b/\w.heap[b]?=some (.cells l.toArray e (0,0))/\V b=none/\∀i ob,σ.own.getD i none=some ob->ob.cs.real->addr i≠b:=by
  intro h;rcases hcs with rfl|⟨rfl,h0⟩
  . exact hb h
  exact hb h0
 have hlt:id<σ.own.length:=by
  rcases Ad id σ.own.length with h|h
  . exact h
  rw[Ab h]at hid; simp at hid
 have hg:σ.own.getD id none=none:=N02 hid;have hget:∀i,(σ.setOwn id (some ⟨e,cs⟩)).own.getD i none=if i=id then some ⟨e,cs⟩else σ.own.getD i none:=by
  intro i;simp only[St.setOwn,List.getD,As];by_cases e':id=i
  . subst e'; simp[hlt]
  have e'':¬i=id:=λx=>e' x.symm
  simp[e',e'']
 have hne:∀i,kind (σ.own.getD i none)≠0->i≠id:=by rintro i h rfl; rw[hg]at h; exact h rfl
 have hmono:∀i,kind (σ.own.getD i none)≠0->kind ((σ.setOwn id (some ⟨e,cs⟩)).own.getD i none)=kind (σ.own.getD i none)/\(if i=id then b else addr i)=addr i:=by
  intro i h;rw[hget,if_neg (hne i h),if_neg (hne i h)]; exact⟨rfl,rfl⟩
 refine⟨hc.size,by simp[St.setOwn,hc.osize],λi hi=>Gy hmono (hc.rel i hi),hc.defers,?_,?_,?_,?_,?_,hc.vin,hc.below,hc.fresh,⟨?_,?_⟩⟩
 . intro i ob' h hre;rw[hget]at h;split at h
   . rename_i e'; cases h; subst e';exact⟨l.toArray,by simp only[Az]; exact(hb hre).2.1,hbk _⟩
   rename_i e';obtain⟨arr',hw,hb'⟩:=hc.blk i ob' h hre;exact⟨arr',by simp only[e',At9]; exact hw,Gz hmono hb'⟩
 . intro i ob' h hre;rw[hget]at h;split at h
   . rename_i e'; cases h; simp only[e',Az]; exact .inl (hb hre).1
   rename_i e'; simp only[e',At9]; exact hc.lo i ob' h hre
 . intro p hp;obtain⟨h1,h2⟩:=hc.lent p hp;have h3:=hmono p.1 (by omega);exact⟨by simp only[h3.2]; exact h1,by rw[h3.1]; exact h2⟩
 . intro i ob' h hre;rw[hget]at h;split at h
   . rename_i e'; cases h; simp only[e',Az]; exact(hb hre).2.2.1
   rename_i e'; simp only[e',At9]; exact hc.out i ob' h hre
 . intro i i' ob1 ob2 h1 h2 hr1 hr2 he;rw[hget]at h1 h2;by_cases e1:i=id<;>by_cases e2:i'=id
   . exact e1.trans e2.symm
   . simp only[e1,e2,Az,At9]at he h2 h1;cases h1;exact absurd he.symm ((hb hr1).2.2.2 i' ob2 h2 hr2)
   . simp only[e1,e2,Az,At9]at he h1 h2;cases h2;exact absurd he ((hb hr2).2.2.2 i ob1 h1 hr1)
   simp only[e1,e2,At9]at he h1 h2;exact hc.inj _ _ _ _ h1 h2 hr1 hr2 he
 . intro i ty m h b0 c0 hm;have hi:σ.own.getD i none=some ⟨ty,.reg m⟩:=by
    rw[hget]at h;split at h
    . rcases hcs with rfl|⟨rfl,_⟩<;>exact absurd h (by simp)
    exact h
   obtain⟨g1,g2,g3,g4⟩:=hc.reg.at_ i ty m hi b0 c0 hm;refine⟨g1,g2,g3,λj ob hj hr => ?_⟩;rw[hget]at hj;split at hj
   . rename_i e'; cases hj; simp only[e',Az];intro he; subst he;have:=hrg hr i ty m hi;rw[hm]at this; exact absurd this (by simp)
   rename_i e'; simp only[e',At9]; exact g4 j ob hj hr
 intro i i' ty ty' m m' h h';have old:∀ {i ty m},(σ.setOwn id (some ⟨e,cs⟩)).own.getD i none=some ⟨ty,.reg m⟩->σ.own.getD i none=some ⟨ty,.reg m⟩:=by
  intro i ty m h;rw[hget]at h;split at h
  . rcases hcs with rfl|⟨rfl,_⟩<;>exact absurd h (by simp)
  exact h
 exact hc.reg.one _ _ _ _ _ _ (old h) (old h')
theorem a0p{P:Program}{Shp sol id o B w0 σ V a w addr}{K:St->View->Prop}{N:Act->World->Prop}{Q:Exit->Act->World->Prop}(hc:Conc B w0 σ V a w addr)
 (hN:∀σ' V' a' w' addr',V.le V'->Conc B w0 σ' V' a' w' addr'->K σ' V'->N a' w') (h:U0l P Shp sol id o σ V K):o.wp P a w N Q:=by
 have hltw:∀i ob',σ.own.getD i none=some ob'->ob'.cs.real->addr i<w.heap.size:=by
  intro i ob' h hre;obtain⟨arr',hw,_⟩:=hc.blk i ob' h hre;rcases Ad (addr i) w.heap.size with h|h
  . exact h
  rw[Au h]at hw; simp at hw
 have gain:∀ {e:TypeId} {l:List Value} {b:Nat} {V':View} {w':World},σ.own[id]?=some none->V.le V'->V'.In w'->V.fresh w.heap.size V'->Below w.heap.size w w' ->
  (l≠[]->w.heap.size<=b/\w'.heap[b]?=some (.cells l.toArray e (0,0))/\V' b=none)->∀cs:Cs,(cs = .list l\/(cs = .dyn l/\l≠[]))->Conc B w0 (σ.setOwn id (some ⟨e,cs⟩)) V' a w' (λi=>if i=id then b else addr i):=by
  intro e l b V' w' hid hle hin hf hb ho cs hcs;refine(hc.view hle hin hf hb).gain hid e l b cs hcs (λhl => ?_) λhl i ty m hi => ?_
  . obtain⟨h1,h2,h3⟩:=ho hl;refine⟨Ah hc.below.size h1,h2,h3,λi ob hi hre => ?_⟩;have:=hltw i ob hi hre; omega
  cases e:m b with
  | none=>rfl
  | some cs0 =>
    obtain⟨⟨T,hT⟩,_⟩:=hc.reg.at_ i ty m hi b cs0 e;rw[Au (ho hl).1]at hT; exact absurd hT (by simp)
 have hkind:∀ {e:TypeId} {l:List Value},σ.own[id]?=some none->kind ((σ.setOwn id (some ⟨e,.list l⟩)).own.getD id none)=2:=by
  intro e l hid;have hlt:id<σ.own.length:=by
   rcases Ad id σ.own.length with h|h
   . exact h
   rw[Ab h]at hid; simp at hid
  simp[St.setOwn,List.getD,hlt]
 unfold U0l at h;split at h
 . rename_i f vs hq hid;unfold Oper.wp;rw[y0j hc hq,Oper.upon_enter];split at h
   . rename_i t hres;split at h
     . rename_i e he;refine(h w hc.vin).mono λe' w' ⟨b,n,cap,l,rest,V',hr,hle,hin,hf,hb,ho,hrest,hk⟩ => ?_;subst hr; subst hrest;cases sol with
       | false =>
         refine hN _ V' _ w' _ hle ((gain hid hle hin hf hb ho _ (.inl rfl)).put o.dst (s := .lst id n cap) ?_) hk;exact⟨hkind hid,by simp only[Az]; rfl⟩
       | true =>
         obtain⟨⟨hc0,hl0⟩,hk⟩:=hk;refine hN _ V' _ w' _ hle ((gain hid hle hin hf hb ho (.dyn l) (.inr ⟨rfl,hl0⟩)).put o.dst (s := .osl id 0 n cap) ?_) hk;have hlt:id<σ.own.length:=by
          rcases Ad id σ.own.length with h|h
          . exact h
          rw[Ab h]at hid; simp at hid
         exact⟨by simp[St.setOwn,List.getD,hlt],by simp only[Az,t0j,lstA,if_neg hc0]⟩
     exact h.elim
   . rename_i t u hres;split at h
     . rename_i e he;refine(h w hc.vin).mono λe' w' ⟨b,n,cap,l,rest,V',hr,hle,hin,hf,hb,ho,x,hrest,hk⟩ => ?_;subst hr; subst hrest;refine hN _ V' _ w' _ hle ((gain hid hle hin hf hb ho _ (.inl rfl)).put o.dst (s := .tlst id n cap [(Shp u).val x]) ?_) hk;exact⟨hkind hid,by simp only[Az]; rfl⟩
     exact h.elim
   exact h.elim
 exact h.elim
theorem w0n{P:Program}{o B w0 σ V a w addr}{K:St->View->Prop}{N:Act->World->Prop}{Q:Exit->Act->World->Prop}(hc:Conc B w0 σ V a w addr)
 (hN:∀σ' V' a' w' addr',V.le V'->Conc B w0 σ' V' a' w' addr'->K σ' V'->N a' w') (h:u0h P o σ V K):o.wp P a w N Q:=by
 unfold u0h at h;split at h
 . rename_i f id off len cap vs hq;split at h
   . rename_i ty l hob;have hg:=N02 hob;obtain⟨arr,hw,hba⟩:=hc.blk id _ hg trivial;simp only[X06]at hba;subst hba;unfold Oper.wp;rw[X0l hc hq];rw[Oper.upon_enter];refine(h w (addr id) hc.vin hw (hc.out id _ hg trivial)).mono λe w' ⟨V',l',he,hle,hin,hf,hb,hw',hn,hk⟩ => ?_;subst he;have hc':=hc.lentBlk hob trivial l' rfl hle hin hf hb hw' hn;refine hN _ V' _ w' addr hle (hc'.put o.dst (s := .osl id off len cap) ?_) hk;have hlt:id<σ.own.length:=by
      rcases Ad id σ.own.length with h|h
      . exact h
      rw[Ab h]at hob; simp at hob
     exact⟨by simp[St.setOwn,List.getD,hlt],rfl⟩
   exact h.elim
 exact h.elim
theorem Conc.lentTwo{B w0 σ V V' a w w' addr}(hc:Conc B w0 σ V a w addr){id idp:Nat}{tp e:TypeId}{l0:List SV}{l:List Value}(hidp:σ.own[idp]?=some (some ⟨tp,.fixed l0⟩))(hid:σ.own[id]?=some (some ⟨e,.list l⟩))
 (hno:∀s∈σ.tm,noL id s) (hno2:∀ty l,some ⟨ty,.fixed l⟩∈σ.own->∀s∈l,noL id s) {n' cap' c2:Nat} {l':List Value}
 (hin:V'.In w') (hf:V.fresh w.heap.size V') (hb:B05 (addr idp::if l=[]then []else [addr id]) w w')
 (hw':w'.heap[addr idp]?=some (.cells #[.slice (lstA c2 cap') n' cap'] tp (0,0))) (hn:V' (addr idp)=none)
 (h2:l'≠[]->w'.heap[c2]?=some (.cells l'.toArray e (0,0))/\V' c2=none/\c2≠addr idp/\(w.heap.size<=c2\/(l≠[]/\c2=addr id))) :
 Conc B w0 ((σ.setOwn id (some ⟨e,.list l'⟩)).setOwn idp (some ⟨tp,.fixed [.lst id n' cap']⟩)) V' a w' (λi=>if i=id then c2 else addr i):=by
 have hg:=N02 hid;have hgp:=N02 hidp;have hne:idp≠id:=by rintro rfl; rw[hid]at hidp; simp at hidp
 have hlen:∀ {i ob},σ.own[i]?=some (some ob)->i<σ.own.length:=by
  intro i ob h;rcases Ad i σ.own.length with h'|h'
  . exact h'
  rw[Ab h']at h; simp at h
 have hlt:=hlen hid;have hltp:=hlen hidp;have hget:∀i,((σ.setOwn id (some ⟨e,.list l'⟩)).setOwn idp (some ⟨tp,.fixed [.lst id n' cap']⟩)).own.getD i none=if i=idp then some ⟨tp,.fixed [.lst id n' cap']⟩else if i=id then some ⟨e,.list l'⟩else σ.own.getD i none:=by
  intro i;simp only[St.setOwn,List.getD,As,Dg];by_cases e1:idp=i
  . subst e1; simp[hltp]
  have e1':¬i=idp:=λx=>e1 x.symm
  by_cases e2:id=i
  . subst e2; simp[hlt,e1,e1']
  have e2':¬i=id:=λx=>e2 x.symm
  simp[e1,e2,e1',e2']
 have hkid:kind (σ.own.getD id none)=2:=by rw[hg]; rfl
 have hkp:kind (σ.own.getD idp none)=1:=by rw[hgp]; rfl
 have hk:∀i,kind (((σ.setOwn id (some ⟨e,.list l'⟩)).setOwn idp (some ⟨tp,.fixed [.lst id n' cap']⟩)).own.getD i none)=kind (σ.own.getD i none):=by
  intro i; rw[hget]; split
  . rename_i h; subst h; rw[hgp]; rfl
  split
  . rename_i h; subst h; rw[hg]; rfl
  rfl
 have hrel:∀ {s:SV} {x:Value},noL id s->Rel addr σ.own s x->Rel (λi=>if i=id then c2 else addr i) ((σ.setOwn id (some ⟨e,.list l'⟩)).setOwn idp (some ⟨tp,.fixed [.lst id n' cap']⟩)).own s x:=by
  intro s x hn h;have h1:∀ {i},kind (σ.own.getD i none)=1->i≠id:=by rintro i h rfl; rw[hkid]at h; simp at h
  cases s with
  | val v=>exact h
  | lit b=>exact h
  | own i off=>exact⟨by rw[hk]; exact h.1,by simp only[h1 h.1,At9]; exact h.2⟩
  | osl i off len cap=>exact⟨by rw[hk]; exact h.1,by simp only[h1 h.1,At9]; exact h.2⟩
  | clo f ids =>
    refine⟨λi hi=>by rw[hk]; exact h.1 i hi,?_⟩;rw[h.2];congr 2;exact Ch λi hi=>by simp only[h1 (h.1 i hi),At9]
  | lst i n c =>
    have hne:i≠id:=by rintro rfl; exact hn.1 n c rfl
    exact⟨by rw[hk]; exact h.1,by simp only[hne,At9]; exact h.2⟩
  | tlst i n c r =>
    have hne:i≠id:=by rintro rfl; exact hn.2.1 n c r rfl
    exact⟨by rw[hk]; exact h.1,by simp only[hne,At9]; exact h.2⟩
  | les i n c =>
    have hne:i≠id:=by rintro rfl; exact hn.2.2 n c rfl
    exact⟨by rw[hk]; exact h.1,by simp only[hne,At9]; exact h.2⟩
  | any=>trivial
 have hltw:∀i ob',σ.own.getD i none=some ob'->ob'.cs.real->addr i<w.heap.size:=by
  intro i ob' h hre;obtain⟨arr',hw,_⟩:=hc.blk i ob' h hre;rcases Ad (addr i) w.heap.size with h|h
  . exact h
  rw[Au h]at hw; simp at hw
 have hrl:∀ {x:List Value},(⟨e,.list x⟩:OB).cs.real->x≠[]:=λh=>h
 have hapart:∀i ob',σ.own.getD i none=some ob'->ob'.cs.real->i≠id->addr i≠c2\/l'=[]:=by
  intro i ob' h hre hi;by_cases h0:l'=[]
  . exact .inr h0
  left;intro heq;rcases (h2 h0).2.2.2 with hc2|⟨hl,hc2⟩
  . have:=hltw _ _ h hre; omega
  exact hi (hc.inj i id ob' _ h hg hre hl (heq.trans hc2))
 refine⟨hc.size,by simp[St.setOwn,hc.osize],λi hi => ?_,hc.defers,?_,?_,?_,?_,?_,hin,?_,g08 hc.fresh hf hc.below.size,
  hc.reg.step (λi ty m h => ?_) (λb hb' hno=>hb.block b hb' ?_) (λb cs h=>(hf b cs h).imp (λg=>g) .inl) (λi ob' h hre => ?_)⟩
 . have hi':i<σ.tm.length:=hi;refine hrel (hno _ ?_) (hc.rel i hi);show((σ.setOwn id _).setOwn idp _).tm.getD i .any∈σ.tm; simp[St.setOwn,List.getD,hi']
 . intro i ob' h hre;rw[hget]at h;split at h
   . rename_i e'; cases h; subst e';refine⟨_,by simp only[hne,At9]; exact hw',by simp,λj hj => ?_⟩;have hj0:j=0:=by simpa using hj
     subst hj0;refine⟨?_,?_⟩
     . rw[hk]; exact hkid
     simp[lstA]
   rename_i e1;split at h
   . rename_i e2; cases h; subst e2;exact⟨l'.toArray,by simp only[Az]; exact(h2 hre).1,rfl⟩
   rename_i e2;obtain⟨arr',hw,hb'⟩:=hc.blk i ob' h hre;refine⟨arr',?_,?_⟩
   . simp only[e2,At9];rw[hb.block _ (hltw _ _ h hre)]
     . exact hw
     intro hmem;rcases Bq.1 hmem with he|he
     . exact e1 (hc.inj _ _ _ _ h hgp hre trivial he)
     split at he
     . simp at he
     rename_i hl;simp only[Ca]at he;exact e2 (hc.inj _ _ _ _ h hg hre hl he)
   obtain⟨ty,cs⟩:=ob';cases cs with
   | dyn l'=>exact hb'
   | list l'=>exact hb'
   | reg m=>exact hb'
   | fixed lf =>
     refine⟨hb'.1,λj hj=>hrel (hno2 ty lf ?_ _ ?_) (hb'.2 j hj)⟩
     . have hil:i<σ.own.length:=by
         rcases Ad i σ.own.length with h'|h'
         . exact h'
         simp[List.getD,Ab h']at h
       have:σ.own[i]=some ⟨ty,.fixed lf⟩:=by simpa [List.getD,hil]using h
       rw[<-this]; exact Ax _
     simp[List.getD,hj]
 . intro i ob' h hre;rw[hget]at h;split at h
   . rename_i e'; subst e'; simp only[hne,At9]; exact hc.lo _ _ hgp trivial
   split at h
   . rename_i e2; cases h; simp only[e2,Az];rcases (h2 hre).2.2.2 with hc2|⟨hl,hc2⟩
     . exact .inl (Ah hc.below.size hc2)
     rw[hc2]; exact hc.lo id _ hg hl
   rename_i e2; simp only[e2,At9]; exact hc.lo i ob' h hre
 . intro p hp;obtain⟨h1,h3⟩:=hc.lent p hp;have hne':p.1≠id:=by intro h; rw[h,hkid]at h3; simp at h3
   exact⟨by simp only[hne',At9]; exact h1,by rw[hk]; exact h3⟩
 . intro i ob' h hre;rw[hget]at h;split at h
   . rename_i e'; subst e'; simp only[hne,At9]; exact hn
   split at h
   . rename_i e2; cases h; simp only[e2,Az]; exact(h2 hre).2.1
   rename_i e2;simp only[e2,At9];cases hv:V' (addr i)with
   | none=>rfl
   | some cs =>
     rcases hf _ _ hv with h1|h1
     . rw[hc.out i ob' h hre]at h1; simp at h1
     have:=hltw _ _ h hre; omega
 . intro i i' ob1 ob2 h1 h3 hr1 hr2 he;have old:∀j ob,((σ.setOwn id (some ⟨e,.list l'⟩)).setOwn idp (some ⟨tp,.fixed [.lst id n' cap']⟩)).own.getD j none=some ob->ob.cs.real->j≠id->∃ob',σ.own.getD j none=some ob'/\ob'.cs.real:=by
    intro j ob h hr hj;rw[hget]at h;by_cases e1:j=idp
    . exact⟨⟨tp,.fixed l0⟩,by rw[e1]; exact hgp,trivial⟩
    rw[if_neg e1,if_neg hj]at h; exact⟨_,h,hr⟩
   have hl':∀ob,((σ.setOwn id (some ⟨e,.list l'⟩)).setOwn idp (some ⟨tp,.fixed [.lst id n' cap']⟩)).own.getD id none=some ob->ob.cs.real->l'≠[]:=by
    intro ob h hr;rw[hget,if_neg hne.symm,if_pos rfl]at h;cases h; exact hr
   by_cases e1:i=id<;>by_cases e2:i'=id
   . exact e1.trans e2.symm
   . exfalso;subst e1;simp only[Az,if_neg e2]at he;obtain⟨ob',hob',hre'⟩:=old i' ob2 h3 hr2 e2;rcases hapart i' ob' hob' hre' e2 with h|h
     . exact h he.symm
     exact hl' ob1 h1 hr1 h
   . exfalso;subst e2;simp only[Az,if_neg e1]at he;obtain⟨ob',hob',hre'⟩:=old i ob1 h1 hr1 e1;rcases hapart i ob' hob' hre' e1 with h|h
     . exact h he
     exact hl' ob2 h3 hr2 h
   simp only[if_neg e1,if_neg e2]at he;obtain⟨_,h1',hr1'⟩:=old i ob1 h1 hr1 e1;obtain⟨_,h2',hr2'⟩:=old i' ob2 h3 hr2 e2;exact hc.inj _ _ _ _ h1' h2' hr1' hr2' he
 . refine⟨hb.os.trans hc.below.os,hb.tape.trans hc.below.tape,hb.output.trans hc.below.output,Ah hc.below.size hb.size,λk hk' hn' => ?_⟩;rw[hb.block k (Cm hk' hc.below.size),hc.below.block k hk' hn'];intro hmem;rcases Bq.1 hmem with he|he
   . subst he;rcases hc.lo idp _ hgp trivial with h|h
     . omega
     exact hn' (Ff _ h)
   split at he
   . simp at he
   rename_i hl;simp only[Ca]at he;subst he;rcases hc.lo id _ hg hl with h|h
   . omega
   exact hn' (Ff _ h)
 . rw[hget]at h;split at h
   . exact absurd h (by simp)
   split at h
   . exact absurd h (by simp)
   exact h
 . intro hmem;rcases Bq.1 hmem with he|he
   . exact hno idp _ hgp trivial he.symm
   split at he
   . simp at he
   rename_i hl;simp only[Ca]at he;exact hno id _ hg hl he.symm
 rw[hget]at h;split at h
 . rename_i e'; subst e'; simp only[hne,At9]; exact .inl ⟨_,_,hgp,trivial,rfl⟩
 split at h
 . rename_i e2; cases h; simp only[e2,Az];rcases (h2 hre).2.2.2 with hc2|⟨hl,hc2⟩
   . exact .inr hc2
   exact .inl ⟨id,_,hg,hl,hc2⟩
 rename_i e2; simp only[e2,At9]; exact .inl ⟨i,ob',h,hre,rfl⟩
theorem s0u{P:Program}{o B w0 σ V a w addr f idp vs}(hc:Conc B w0 σ V a w addr)(h:x0w P o σ.ev=some (f,idp,vs)) :
 (execOp a.eval o).run P w = .ok (.enter f (vs++[Value.pointer (some ⟨addr idp,0,none⟩)]).toArray) w:=by
 unfold x0w at h;split at h
 . rename_i c hop;split at h
   . rename_i fo hcal;have hf:=hc.eval fo;split at h
     . rename_i f' idp' hfo;rw[hfo]at hf;simp only[Rel]at hf;split at h
       . rename_i vs' hcb hvs;simp only[Ay,Fd9]at h;obtain⟨rfl,rfl,rfl⟩:=h;unfold M0b at hcb;split at hcb
         . rename_i fn hfn;simp only[By,De]at hcb;have hargs:c.args.map a.eval=vs'.toArray:=by
            apply Bv;have:=l08 hc.eval hvs;simp[this]
           have hbody:fn.body.isNone=false:=by cases hb:fn.body<;>simp_all
           simp only[execOp,hop,resolve,hcal,hargs,hf.2,Deferred.ofValue,Sem.run_bind,Sem.run_pure,Result.andThen_ok,invoke,callFunc,run_program];simp[hfn,hcb.1,hbody]
         simp at hcb
       simp at h
     simp at h
   simp at h
 simp at h
theorem b0p{P:Program}{id o B w0 σ V a w addr}{K:St->View->Prop}{N:Act->World->Prop}{Q:Exit->Act->World->Prop}(hc:Conc B w0 σ V a w addr)
 (hN:∀σ' V' a' w' addr',V.le V'->Conc B w0 σ' V' a' w' addr'->K σ' V'->N a' w') (h:W0l P id o σ V K):o.wp P a w N Q:=by
 unfold W0l at h;split at h
 . rename_i f idp vs hq;split at h
   . rename_i tp i n cap e l hobp hob;split at h
     . rename_i hi;have hi:=Aj hi;subst hi;have hg:=N02 hob;have hgp:=N02 hobp;obtain⟨arr,hw,hba⟩:=hc.blk idp _ hgp trivial;obtain⟨hsz,hrel⟩:=hba;have h0:=hrel 0 (by simp);simp only[List.getD,List.getElem?_cons_zero,Dj,Rel]at h0;have harr:arr=#[.slice (lstA (addr i) cap) n cap]:=by
        apply Array.ext
        . simpa using hsz
        intro j h1 h2;have:j=0:=by simp at h2; exact h2
        subst this;have:=h0.2;simp only[Ai,Bw h1,Dj]at this;simpa [lstA]using this
       subst harr;unfold Oper.wp;rw[s0u hc hq];rw[Oper.upon_enter];refine(h w (addr idp) (addr i) hc.vin hw (hc.out idp _ hgp trivial) λhl => ?_).mono λen w' ⟨V',n',cap',l',c2,he,hle,hin,hf,hb,hw',hn,h2,hk⟩ => ?_
       . obtain⟨arr2,hw2,hba2⟩:=hc.blk i _ hg hl;simp only[X06]at hba2;subst hba2;refine⟨hw2,hc.out i _ hg hl,λheq => ?_⟩;have:=hc.inj i idp _ _ hg hgp hl trivial heq;subst this;rw[hob]at hobp; simp at hobp
       subst he;have hck:=hc.kill i;have hidk:(σ.kill i).own[i]?=some (some ⟨e,.list l⟩):=by
        simp only[St.kill,Cd,hob]; rfl
       have hidpk:(σ.kill i).own[idp]?=some (some ⟨tp,.fixed [.any]⟩):=by
        simp only[St.kill,Cd,hobp,Aw,p0g,N0f,Go9,List.map_nil,O06,Az]
       have hnol:∀s∈(σ.kill i).tm,noL i s:=by
        intro s hs;obtain⟨s0,_,rfl⟩:=Bc.1 hs;exact i0j i s0
       have hnol2:∀ty l,some ⟨ty,.fixed l⟩∈(σ.kill i).own->∀s∈l,noL i s:=by
        intro ty l' hl s hs;obtain⟨o0,_,ho0⟩:=Bc.1 hl;obtain⟨ob0,rfl,hob⟩:=Bg.1 ho0;obtain⟨ty0,cs0⟩:=ob0;cases cs0 with
        | fixed l0 =>
          simp only[N0f,OB.mk.injEq,Cs.fixed.injEq]at hob;rw[<-hob.2]at hs;obtain⟨s0,_,rfl⟩:=Bc.1 hs;exact i0j i s0
        | dyn l0=>simp[N0f]at hob
        | list l0=>simp[N0f]at hob
        | reg l0=>simp[N0f]at hob
       have hc':=hck.lentTwo hidpk hidk hnol hnol2 hin hf hb hw' hn h2;exact hN _ V' _ w' _ hle (hc'.put o.dst (s := .val (.tuple #[])) rfl) hk
     exact h.elim
   exact h.elim
 exact h.elim
theorem z0j{P:Program}{Shp ops an o B w0 σ V a w addr}{K:St->View->Prop}{N:Act->World->Prop}{Q:Exit->Act->World->Prop}(hc:Conc B w0 σ V a w addr)
 (hN:∀σ' V' a' w' addr',V.le V'->Conc B w0 σ' V' a' w' addr'->K σ' V'->N a' w') (h:I05 P Shp ops an o σ V K):T13 P ops o a w N Q:=by
 unfold I05 at h;unfold T13;split at h
 . rename_i hg;rw[if_pos (k0i hc hg)];refine .inl ?_;unfold actT at h;split at h
   . exact w0r hc hN h
   . exact Y0o hc hN h
   . exact X0o hc hN h
   . exact q0u hc hN h
   . exact n0l hc hN h
   . exact x0r hc hN h
   . exact a0p hc hN h
   . exact w0n hc hN h
   . exact b0p hc hN h
   . exact W0o hc hN h
   . exact y0r hc hN h
   . exact Z0o hc hN h
   obtain⟨s,ob,hk,hd⟩:=t0r hc h;refine q12 (k:=λ_ s=>fin an.sp s λs=>K ((σ.setOwn an.rt ob).put o.dst s) V) hd hk λx w' addr' hc' hr hk' => ?_;obtain⟨s',hr',hk''⟩:=g0j hr hk';exact hN _ V _ _ addr' (Gw V) (hc'.put o.dst hr') hk''
 . rename_i hg;rw[k0i hc hg,if_neg (by simp)];exact hN _ V _ _ addr (Gw V) (hc.put o.dst (s := .val undef) rfl) h
 exact h.elim
