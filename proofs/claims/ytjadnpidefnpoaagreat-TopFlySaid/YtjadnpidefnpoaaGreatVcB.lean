/- Part. -/
import Derived.Test.YtjadnpidefnpoaaGreatVcA
import Derived.Laws.CopyRow
import Derived.Laws.MakeOwn
import Derived.Laws.OwnMore
import Derived.Laws.IdiomStrings
import Derived.Lib.SliceRun
namespace Go.Vc
open Go Go.RowKit
def peel(P:Program):Sem Next->Option Value
 | .pure (.value v)=>some v
 | .program k=>peel P (k P)
 | _=>none
theorem E0z(P:Program):∀(s:Sem Next) (v:Value) (w:World),peel P s=some v->s.run P w = .ok (.value v) w:=by
 intro s
 induction s with
 | pure n=>intro v w h; cases n<;>simp[peel]at h; subst h; rfl
 | program k ih=>intro v w h; simp only[peel]at h; simpa [Sem.run]using ih P v w h
 | _=>intro v w h; simp[peel]at h
def q0n(P:Program)(t:TypeId):Option Bool :=
 match P.underlying t with
 | some (.struct _)=>some true
 | some (.array _ _)=>some true
 | some _=>some false
 | none=>none
def Q07(P:Program)(t:TypeId):Option Nat:=(P.info? t).map (·.size)
def i0i(P:Program)(t:TypeId):Option Nat:=(P.info? t).map (·.bytes)
def B0d(P:Program)(t:TypeId):Option (List Value):=((P.info? t).bind (·.zero)).map (·.cells.toList)
def o0w(P:Program)(s:TypeId)(f:Nat):Option Nat :=
 match P.underlying s with
 | some (.struct fs) =>
   match fs[f]? with
   | some fd => match Q07 P fd.type with
     | some 0=>none
     | some _=>some fd.offset
     | none=>none
   | none=>none
 | _=>none
def X0a(P:Program)(t:TypeId):Option TypeId :=
 match P.underlying t with
 | some (.slice e)=>some e
 | _=>none
def arrQ(P:Program)(t:TypeId):Option (Nat×TypeId) :=
 match P.underlying t with
 | some (.array n e)=>some (n,e)
 | _=>none
theorem X05{P:Program}{t:TypeId}{n:Nat}(h:Q07 P t=some n)(w:World):(sizeOf t).run P w = .ok n w:=by
 unfold Q07 at h;cases hi:P.info? t with
 | none=>simp[hi]at h
 | some i=>simp[hi]at h; simp[sizeOf,typeInfo,hi,h]
theorem u0j{P:Program}{t:TypeId}{b:Bool}(h:q0n P t=some b)(w:World):(isAgg t).run P w = .ok b w:=by
 unfold q0n at h;cases hu:P.underlying t with
 | none=>simp[hu]at h
 | some d=>cases d<;>simp[hu]at h<;>subst h<;>simp[isAgg,underlying,hu]
theorem O0l{P:Program}{t:TypeId}{l:List Value}(h:B0d P t=some l)(w:World):∃z,(zeroValue t).run P w = .ok z w/\z.cells.toList=l:=by
 unfold B0d at h;cases hi:P.info? t with
 | none=>simp[hi]at h
 | some i =>
   cases hz:i.zero with
   | none=>simp[hi,hz]at h
   | some z=>simp[hi,hz]at h; exact⟨z,by simp[zeroValue,typeInfo,hi,hz],h⟩
def strQ(P:Program)(t:TypeId):Bool :=
 match P.underlying t with
 | some .string=>true
 | _=>false
def u8Q(P:Program)(t:TypeId):Bool :=
 match P.underlying t with
 | some (.int .u8)=>true
 | _=>false
def Q13(c:UInt8):Value := .int .u8 (c.toNat:Int)
structure z15 where
 α:Type
 val:α->Value
abbrev l04:=TypeId->z15
def S01:SV->List SV
 | .val v=>v.cells.toList.map .val
 | s=>[s]
def j0i:SV->Bool
 | .any=>false
 | .tlst _ _ _ _=>false
 | _=>true
def s0n:SV->Bool
 | .val v=>v.oneCell'
 | .any=>false
 | .tlst _ _ _ _=>false
 | _=>true
def S07:List SV->Option (List Value)
 | []=>some []
 | .val v::l=>match S07 l with|some vs=>some (v::vs)|none=>none
 | .lit b::l=>match S07 l with|some vs=>some (.bool b::vs)|none=>none
 | _=>none
def setL{α:Type}:List α->Nat->List α->List α
 | l,_,[]=>l
 | l,off,v::vs=>setL (l.set off v) (off+1) vs
structure An where
 rt:Nat
 fl:Nat
 sp:Bool
def rho(ev:Operand->SV)(x:Operand):Value:=((ev x).asVal).getD undef
def j0g:Op->Bool
 | .select _ _=>true
 | _=>false
def gen(P:Program)(fl:Nat)(o:Oper)(ev:Operand->SV)(k:SV->Prop):Prop :=
 match j0g o.op,o.op.operands.toList.all (λx=>(ev x).asVal.isSome),fl with
 | false,true,0=>match peel P (execOp (rho ev) o)with|some v=>k (.val v)|none=>False
 | false,true,_+1=>∃v,(∀w,(execOp (rho ev) o).run P w = .ok (.value v) w)/\k (.val v)
 | _,_,_=>False
def exS(i:Nat):SV->Option SV
 | .tlst id n cap rest=>match i with
   | 0=>some (.lst id n cap)
   | j+1=>(rest[j]?).map .val
 | _=>none
def J07(_:Program)(_:l04)(_:View)(_:Nat)(o:Oper)(ev:Operand->SV)(blk:Option (Option OB))(k:SV->Option OB->Prop):Prop :=
 match o.op with
 | .move x | .assign x=>match blk with|some b=>k (ev x) b|none=>False
 | .pick c a b=>match blk,ev c with
   | some bl,.lit true=>k (ev a) bl
   | some bl,.lit false=>k (ev b) bl
   | _,_=>False
 | .extract x i=>match blk,exS i (ev x)with
   | some bl,some s=>k s bl
   | _,_=>False
 | _=>False
def k0g(P:Program)(o:Oper)(ev:Operand->SV):Option (Array Value×Nat) :=
 match o.op with
 | .buildSlice t n parts =>
   match X0a P t with
   | some e =>
     match B0d P e,Q07 P e,parts.toList.all (λp=>(ev p.2).asVal.isSome)with
     | some zs, some sz, true =>
       match Nat.ble (n*sz) 16777216,Nat.beq zs.length sz,Instr.fill (λi=>some (i*sz,sz)) (List.replicate n zs).flatten.toArray (parts.toList.map λp=>(p.1,rho ev p.2))with
       | true,true,some cells=>some (cells,n)
       | _,_,_=>none
     | _,_,_=>none
   | none=>none
 | _=>none
def c0c(P:Program)(_:l04)(_:View)(rt:Nat)(o:Oper)(ev:Operand->SV)(blk:Option (Option OB))(k:SV->Option OB->Prop):Prop :=
 match o.op,blk with
 | .alloc t,some none=>match B0d P t with|some zs=>k (.own rt 0) (some ⟨t,.fixed (zs.map .val)⟩)|none=>False
 | .box t x,some none=>match j0i (ev x)with|true=>k (.own rt 0) (some ⟨t,.fixed (S01 (ev x))⟩)|false=>False
 | .makeSlice t n c,some none =>
   match X0a P t,ev n,ev c with
   | some e, .val (.int _ ln), .val (.int _ cp) =>
     match B0d P e,Q07 P e,i0i P e with
     | some zs, some sz, some bs => (0 ≤ ln ∧ ln ≤ cp ∧ (bs : Int) * cp ≤ 281474976710656 ∧ cp ≤ 9223372036854775807) ∧
       (match Nat.beq zs.length sz with
        | true=>k (.osl rt 0 ln.toNat cp.toNat) (some ⟨e,.dyn (List.replicate cp.toNat zs).flatten⟩)
        | false=>False)
     | _,_,_=>False
   | _,_,_=>False
 | .buildSlice t _ _,some none =>
   match X0a P t,k0g P o ev with
   | some e,some (cells,n)=>k (.les rt n n) (some ⟨e,.list cells.toList⟩)
   | _,_=>False
 | _,_=>False
def x08(P:Program)(Shp:l04)(_:View)(rt:Nat)(o:Oper)(ev:Operand->SV)(blk:Option (Option OB))(k:SV->Option OB->Prop):Prop :=
 match o.op,blk with
 | .load t p,some (some ob) =>
   match ev p with
   | .own id off =>
     match Nat.beq id rt,q0n P t,Q07 P t,ob.cs with
     | true, some true, some n, .fixed l => match S07 ((l.drop off).take n), Nat.ble (off + n) l.length with
       | some vs,true=>k (.val (.agg vs.toArray)) (some ob)
       | _,_=>False
     | true,some false,_,.fixed l=>match l[off]? with|some s=>k s (some ob)|none=>False
     | true,some false,_,.dyn l=>∃x:(Shp t).α,l[off]?=some ((Shp t).val x)/\k (.val ((Shp t).val x)) (some ob)
     | true, some true, some n, .dyn l => ∃ x : (Shp t).α, (l.drop off).take n = ((Shp t).val x).cells.toList ∧
       (match (Shp t).val x with
        | .agg cs=>match Nat.beq cs.size n with|true=>k (.val (.agg cs)) (some ob)|false=>False
        | _=>False)
     | _,_,_,_=>False
   | _=>False
 | _,_=>False
def y08(P:Program)(Shp:l04)(V:View)(_:Nat)(o:Oper)(ev:Operand->SV)(blk:Option (Option OB))(k:SV->Option OB->Prop):Prop :=
 match o.op,blk with
 | .load t p,some b =>
   match ev p with
   | .val (.pointer pa) =>
     match q0n P t,Q07 P t with
     | some true, some n => ∃ x : (Shp t).α, V.has pa ((Shp t).val x).cells.toList ∧ pa.isSome = true ∧
       (match (Shp t).val x with
        | .agg cs=>match Nat.beq cs.size n with|true=>k (.val (.agg cs)) b|false=>False
        | _=>False)
     | some false,_=>∃x:(Shp t).α,V.load pa=some ((Shp t).val x)/\k (.val ((Shp t).val x)) b
     | _,_=>False
   | _=>False
 | .convert src dst x,some b =>
   match ev x,X0a P src,strQ P dst with
   | .val (.slice a len _), some e, true => match u8Q P e with
     | true=>∃bs:List UInt8,V.has a (bs.map Q13)/\bs.length=len/\a.isSome=true/\k (.val (.string ⟨bs.toArray⟩)) b
     | false=>False
   | _,_,_=>False
 | _,_=>False
def Y07(P:Program)(_:l04)(_:View)(rt:Nat)(o:Oper)(ev:Operand->SV)(blk:Option (Option OB))(k:SV->Option OB->Prop):Prop :=
 match o.op,blk with
 | .store t p x,some (some ob) =>
   match ev p,Q07 P t with
   | .own id off, some n =>
     match Nat.beq id rt,ob.cs with
     | true, .fixed l =>
       match (S01 (ev x)).all s0n,Nat.beq (S01 (ev x)).length n,Nat.ble (off+n) l.length with
       | true,true,true=>k .any (some ⟨ob.ty,.fixed (setL l off (S01 (ev x)))⟩)
       | _,_,_=>False
     | true, .dyn l =>
       match (S01 (ev x)).all s0n,Nat.beq (S01 (ev x)).length n,S07 (S01 (ev x))with
       | true,true,some vs=>off+n<=l.length/\k .any (some ⟨ob.ty,.dyn (setL l off vs)⟩)
       | _,_,_=>False
     | _,_=>False
   | _,_=>False
 | _,_=>False
def H05(P:Program)(_:l04)(_:View)(_:Nat)(o:Oper)(ev:Operand->SV)(blk:Option (Option OB))(k:SV->Option OB->Prop):Prop :=
 match o.op,blk with
 | .fieldAddr s p f,some b =>
   match ev p,o0w P s f with
   | .own id off,some d=>k (.own id (off+d)) b
   | .val (.pointer pa),some d=>pa.isSome=true/\k (.val (.pointer (pa.map (·.add d)))) b
   | _,_=>False
 | .indexAddr t x i,some b =>
   match ev x,ev i with
   | .osl id off len _, .val (.int _ n) =>
     match X0a P t with
     | some e => match Q07 P e with
       | some sz=>(0<=n/\n<len)/\k (.own id (off+n.toNat*sz)) b
       | none=>False
     | none=>False
   | .own id off, .val (.int _ n) =>
     match arrQ P t with
     | some (len, e) => match Q07 P e with
       | some sz=>(0<=n/\n<len)/\k (.own id (off+n.toNat*sz)) b
       | none=>False
     | none=>False
   | .val (.slice a len _), .val (.int _ n) =>
     match X0a P t with
     | some e => match Q07 P e with
       | some sz=>(0<=n/\n<len/\a.isSome=true)/\k (.val (.pointer (a.map (·.add (n.toNat*sz))))) b
       | none=>False
     | none=>False
   | .val (.pointer (some p)), .val (.int _ n) =>
     match arrQ P t with
     | some (len, e) => match Q07 P e with
       | some sz=>(0<=n/\n<((len:Nat):Int))/\k (.val (.pointer (some (p.add (n.toNat*sz))))) b
       | none=>False
     | none=>False
   | _,_=>False
 | .slice t x lo hi mx,some b =>
   match X0a P t,mx with
   | some e, none =>
     match Q07 P e,ev x,(match lo with|none=>some (0:Int)|some l=>match ev l with | .val (.int _ n)=>some n|_=>none)with
     | some sz, .osl id off len cap, some l =>
       match (match hi with|none=>some (len:Int)|some h=>match ev h with | .val (.int _ n)=>some n|_=>none)with
       | some h=>(0<=l/\l<=h/\h<=cap/\l<cap)/\k (.osl id (off+l.toNat*sz) (h.toNat-l.toNat) (cap-l.toNat)) b
       | none=>False
     | some sz, .val (.slice a len cap), some l =>
       match (match hi with|none=>some (len:Int)|some h=>match ev h with | .val (.int _ n)=>some n|_=>none)with
       | some h=>(0<=l/\l<=h/\h<=cap)/\k (.val (.slice (if cap=l.toNat then a else a.map (·.add (l.toNat*sz))) (h.toNat-l.toNat) (cap-l.toNat))) b
       | none=>False
     | _,_,_=>False
   | _,_=>False
 | .call c,some b =>
   match c.callee,c.args.toList,c.argTypes.toList with
   | .builtin .len, [x], [t] => match ev x, X0a P t with
     | .osl _ _ len _,some _=>k (.val (.int .i64 len)) b
     | _,_=>False
   | _,_,_=>False
 | .makeFunc (.func f) first caps,some b =>
   match first.toList,caps.toList with
   | [], [p] => match ev p with
     | .own id 0=>k (.clo f [id]) b
     | _=>False
   | _,_=>False
 | _,_=>False
def Q0o(s:ByteArray)(n:Nat):Int:=((s.data.toList.getD n 0).toNat:Int)
def l0g(P:Program)(f:FuncId):List TypeId :=
 match P.funcs[f]? with
 | some fn=>fn.resultTypes.toList
 | none=>[]
def Y09(ev:Operand->SV):List Operand->Option (List Value)
 | []=>some []
 | x::l=>match (ev x).asVal,Y09 ev l with
   | some v,some vs=>some (v::vs)
   | _,_=>none
def O0d(P:Program)(f:FuncId)(args:Array Value)(v:Value):Prop:=∀w,(callFunc f args).run P w = .ok (.value v) w
def EqAt(P:Program)(t:TypeId)(x y:Value)(b:Bool):Prop:=∀w,(binOp .eql t x y).run P w = .ok (.bool b) w
def NeAt(P:Program)(t:TypeId)(x y:Value)(b:Bool):Prop:=∀w,(binOp .neq t x y).run P w = .ok (.bool b) w
def fmax(k:FloatKind)(x y:Nat):Nat :=
 match k.format.order x y with
 | some .lt=>y
 | some .gt=>x
 | _=>if(k.decode x).neg then y else x
def fmin(k:FloatKind)(x y:Nat):Nat :=
 match k.format.order x y with
 | some .lt=>x
 | some .gt=>y
 | _=>if(k.decode x).neg then x else y
def cvtF(s:FloatKind)(a:Nat)(d:FloatKind):Option Nat :=
 match decide (s=d)with
 | true=>some a
 | false=>match s.decode a with
   | .nan _ _=>none
   | .infinity g=>some (d.encode (.infinity g))
   | .number g m e => match (d.decode (d.encode (.number g m e))).isInfinity with
     | true=>none
     | false=>some (d.encode (.number g m e))
def z08(P:Program)(Shp:l04)(_V:View)(_rt:Nat)(o:Oper)(ev:Operand->SV)(blk:Option (Option OB))(k:SV->Option OB->Prop):Prop :=
 match blk with
 | none=>False
 | some b =>
   match o.op with
   | .binOp op t x y _ =>
     match op,ev x,ev y with
     | .shl,.val (.int kk a),.val (.int _ c)=>0<=c/\k (.val (.int kk (kk.wrap (a*2^min c.toNat kk.bits)))) b
     | .shr,.val (.int kk a),.val (.int _ c)=>0<=c/\k (.val (.int kk (a.fdiv (2^min c.toNat kk.bits)))) b
     | .quo, .val (.int kk a), .val (.int k' c) => match decide (kk = k') with
       | true=>c≠0/\k (.val (.int kk (kk.wrap (a.tdiv c)))) b
       | false=>False
     | .rem, .val (.int kk a), .val (.int k' c) => match decide (kk = k') with
       | true=>c≠0/\k (.val (.int kk (a.tmod c))) b
       | false=>False
     | .mul, .val (.float kk a), .val (.float k' c) => match decide (kk = k') with
       | true=>∃r:Nat,kk.format.mul a c=some r/\k (.val (.float kk r)) b
       | false=>False
     | .quo, .val (.float kk a), .val (.float k' c) => match decide (kk = k') with
       | true=>∃r:Nat,kk.format.div a c=some r/\k (.val (.float kk r)) b
       | false=>False
     | .add,.val (.string s),.val (.string u)=>((s.size+u.size:Nat):Int)<=IntKind.i64.max/\k (.val (.string (s++u))) b
     | .eql, .val (.agg s), .val (.agg u) => match P.eqGuardType P.depth t with
       | false=>∃c:Bool,EqAt P t (.agg s) (.agg u) c/\k (.val (.bool c)) b
       | true=>False
     | .neq, .val (.agg s), .val (.agg u) => match P.eqGuardType P.depth t with
       | false=>∃c:Bool,NeAt P t (.agg s) (.agg u) c/\k (.val (.bool c)) b
       | true=>False
     | .eql, .val (.slice s _ _), .val (.slice none _ _) => match X0a P t with
       | some _=>True/\k (.val (.bool s.isNone)) b
       | none=>False
     | _,_,_=>False
   | .call c =>
     match c.callee,c.args.toList with
     | .builtin .max, [x, y] => match ev x, ev y with
       | .val (.float kk a),.val (.float _ c)=>(kk.format.order a c).isSome=true/\k (.val (.float kk (fmax kk a c))) b
       | _,_=>False
     | .builtin .min, [x, y] => match ev x, ev y with
       | .val (.float kk a),.val (.float _ c)=>(kk.format.order a c).isSome=true/\k (.val (.float kk (fmin kk a c))) b
       | _,_=>False
     | .value (.func f), l => match Y09 ev l, l0g P f with
       | some vs,[t]=>∃x:(Shp t).α,O0d P f vs.toArray ((Shp t).val x)/\k (.val ((Shp t).val x)) b
       | _,_=>False
     | _,_=>False
   | .index t x i =>
     match strQ P t,ev x,ev i with
     | true,.val (.string s),.val (.int _ n)=>(0<=n/\n<s.size)/\k (.val (.int .u8 (Q0o s n.toNat))) b
     | false, .val (.agg cs), .val (.int _ n) =>
       match arrQ P t with
       | some (len, e) => match q0n P e, Q07 P e with
         | some true, some sz => (0 ≤ n ∧ n < ((len : Nat) : Int)) ∧ ∃ y : (Shp e).α, List.take sz (List.drop (n.toNat * sz) cs.toList) = ((Shp e).val y).cells.toList ∧
           (match (Shp e).val y with
            | .agg ds=>match Nat.beq ds.size sz with|true=>k (.val (.agg ds)) b|false=>False
            | _=>False)
         | _,_=>False
       | none=>False
     | _,_,_=>False
   | .convert src dst x =>
     match ev x,P.underlying src,P.underlying dst with
     | .val (.float s a),some _,some (.float d)=>∃r:Nat,cvtF s a d=some r/\k (.val (.float d r)) b
     | _,_,_=>False
   | .slice t x lo hi (some mx) =>
     match X0a P t,ev x,(match lo with|none=>some (0:Int)|some l=>match ev l with | .val (.int _ n)=>some n|_=>none),(match hi with|none=>none|some h=>match ev h with | .val (.int _ n)=>some n|_=>none),ev mx with
     | some e, .val (.slice a _ cap), some l, some h, .val (.int _ m) =>
       match Q07 P e with
       | some sz=>(0<=l/\l<=h/\h<=m/\m<=cap)/\k (.val (.slice (if m.toNat=l.toNat then a else a.map (·.add (l.toNat*sz))) (h.toNat-l.toNat) (m.toNat-l.toNat))) b
       | none=>False
     | _,_,_,_,_=>False
   | .slice t x none none none =>
     match ev x,arrQ P t with
     | .val (.pointer (some p)), some (n + 1, e) => match Q07 P e with
       | some _=>True/\k (.val (.slice (some p) (n+1) (n+1))) b
       | none=>False
     | _,_=>False
   | _=>False
def A08(P:Program)(_Shp:l04)(V:View)(rt:Nat)(o:Oper)(ev:Operand->SV)(blk:Option (Option OB))(k:SV->Option OB->Prop):Prop :=
 match o.op,blk with
 | .call c,some (some ob) =>
   match c.callee,c.args.toList,c.argTypes.toList with
   | .builtin .copy, [x, y], [t, _] =>
     match ev x,ev y,X0a P t,ob.cs with
     | .osl id off len _, .val (.slice a n _), some e, .dyn l =>
       match Nat.beq id rt,Q07 P e with
       | true, some sz => ∃ vs : List Value, View.has V a vs ∧ vs.length = min n len * sz ∧ (vs = [] ∨ a.isSome = true) ∧ (∀ v ∈ vs, v.oneCell' = true) ∧ off + vs.length ≤ l.length ∧
         k (.val (.int .i64 (min n len:Nat))) (some ⟨ob.ty,.dyn (setL l off vs)⟩)
       | _,_=>False
     | _,_,_,_=>False
   | _,_,_=>False
 | _,_=>False
def I00(m:View)(b:Nat)(cs:Array Value):View:=λi=>if i=b then some cs else m i
def has2(m V:View)(p:Option Addr)(l:List Value):Prop:=m.has p l\/V.has p l
def o09(m V:View)(p:Option Addr)(v:Value):Prop:=m.load p=some v\/V.load p=some v
theorem P0d{m V V':View}(h:V.le V'){p:Option Addr}{l:List Value}(e:has2 m V p l):has2 m V' p l:=e.imp id (w06 h)
theorem F0z{m V V':View}(h:V.le V'){p:Option Addr}{v:Value}(e:o09 m V p v):o09 m V' p v:=e.imp id (H02 h)
def Z09(P:Program)(Shp:l04)(V:View)(_:Nat)(o:Oper)(ev:Operand->SV)(blk:Option (Option OB))(k:SV->Option OB->Prop):Prop :=
 match o.op,blk with
 | .load t p,some (some ⟨ty,.reg m⟩) =>
   match ev p with
   | .val (.pointer pa) =>
     match q0n P t,Q07 P t with
     | some true, some n => ∃ x : (Shp t).α, has2 m V pa ((Shp t).val x).cells.toList ∧ pa.isSome = true ∧
       (match (Shp t).val x with
        | .agg cs=>match Nat.beq cs.size n with|true=>k (.val (.agg cs)) (some ⟨ty,.reg m⟩)|false=>False
        | _=>False)
     | some false,_=>∃x:(Shp t).α,o09 m V pa ((Shp t).val x)/\k (.val ((Shp t).val x)) (some ⟨ty,.reg m⟩)
     | _,_=>False
   | _=>False
 | _,_=>False
def m09(P:Program)(_:l04)(_:View)(_:Nat)(o:Oper)(ev:Operand->SV)(blk:Option (Option OB))(k:SV->Option OB->Prop):Prop :=
 match o.op,blk with
 | .store t p x,some (some ⟨ty,.reg m⟩) =>
   match ev p,Q07 P t with
   | .val (.pointer pa), some n =>
     match (S01 (ev x)).all s0n,Nat.beq (S01 (ev x)).length n,S07 (S01 (ev x))with
     | true,true,some vs=>∃(b off:Nat) (cs:List Value),pa=some ⟨b,off,none⟩/\m b=some cs.toArray/\off+n<=cs.length/\k .any (some ⟨ty,.reg (I00 m b (setL cs off vs).toArray)⟩)
     | _,_,_=>False
   | _,_=>False
 | _,_=>False
def litK(b:Option OB)(k:SV->Option OB->Prop):SV->Prop
 | .val (.bool true)=>k (.lit true) b
 | .val (.bool false)=>k (.lit false) b
 | _=>False
def cl:Operand->SV->SV
 | .const (.bool d),_ => .lit d
 | _,s=>s
def L0f(_:Program)(o:Oper)(ev:Operand->SV)(blk:Option (Option OB))(k:SV->Option OB->Prop):Prop :=
 match o.op,blk with
 | .unOp .not _ x,some b=>match ev x with
   | .lit c=>k (.lit (!c)) b
   | .val (.bool c)=>k (.val (.bool (!c))) b
   | _=>False
 | .pick c x y,some b=>match ev c with
   | .lit true=>k (cl x (ev x)) b
   | .lit false=>k (cl y (ev y)) b
   | _=>False
 | _,_=>False
def a0a(P:Program)(Shp:l04)(V:View)(an:An)(o:Oper)(ev:Operand->SV)(blk:Option (Option OB))(k:SV->Option OB->Prop):Prop :=
 match an.fl with
 | 2=>J07 P Shp V an.rt o ev blk k
 | 3=>c0c P Shp V an.rt o ev blk k
 | 4=>x08 P Shp V an.rt o ev blk k
 | 5=>y08 P Shp V an.rt o ev blk k
 | 6=>Y07 P Shp V an.rt o ev blk k
 | 7=>H05 P Shp V an.rt o ev blk k
 | 12=>z08 P Shp V an.rt o ev blk k
 | 16=>A08 P Shp V an.rt o ev blk k
 | 22=>Z09 P Shp V an.rt o ev blk k
 | 23=>m09 P Shp V an.rt o ev blk k
 | 9=>match blk with|some b=>gen P 0 o ev (litK b k)|none=>False
 | 20=>L0f P o ev blk k
 | 8=>match blk with|some b=>gen P 1 o ev (λs=>k s b)|none=>False
 | _=>match blk with|some b=>gen P 0 o ev (λs=>k s b)|none=>False
