/- Part of the proof; it has the parts VNat VDiv VBit VDiv2 VQ VNum VList VFour VGate VPart VLaw7 VReg VFl. -/
import Derived.Test.YtblaagclfalaaaaGTw
import Derived.WalkKit
import Derived.ProofKit
import Derived.OpenShut
import Derived.IntWalk
import GoSem.Core.Float
namespace Go.Vc
open Go Go.RowKit
def wval:List Nat->Nat
 | []=>0
 | d::l=>d+4294967296*wval l
def dig(n:Nat):List Nat:=if h:n=0 then []else n%4294967296::dig (n / 4294967296)
termination_by n
decreasing_by omega
def WB(l:List Nat):Prop:=∀d∈l,d<4294967296
def wv(l:List Nat):List Value:=l.map λ(d:Nat)=>Value.int .u32 (d:Int)
theorem dig_zero:dig 0=[]:=by rw[dig]; simp
theorem dig_pos{n:Nat}(h:n≠0):dig n=n%4294967296::dig (n / 4294967296):=by rw[dig]; simp[h]
theorem wval_dig(n:Nat):wval (dig n)=n:=by
 induction n using Nat.strongRecOn with
 | _ n ih =>
   by_cases h:n=0
   . subst h; simp[dig_zero,wval]
   . rw[dig_pos h,wval,ih _ (by omega)]; omega
theorem WB_dig(n:Nat):WB (dig n):=by
 induction n using Nat.strongRecOn with
 | _ n ih =>
   by_cases h:n=0
   . subst h; simp[dig_zero,WB]
   . rw[dig_pos h]
     intro d hd
     rcases List.mem_cons.1 hd with rfl|hd
     . omega
     . exact ih _ (by omega) d hd
theorem wval_append(a b:List Nat):wval (a++b)=wval a+4294967296^a.length*wval b:=by
 induction a with
 | nil=>simp[wval]
 | cons d l ih=>simp only[List.cons_append,wval,ih,List.length_cons,Nat.pow_succ]; grind
theorem wval_lt{l:List Nat}(h:WB l):wval l<4294967296^l.length:=by
 induction l with
 | nil=>simp[wval]
 | cons d l ih =>
   have h1:=ih (λx hx=>h x (by simp[hx]))
   have h2:=h d (by simp)
   simp only[wval,List.length_cons,Nat.pow_succ]
   omega
theorem wval_take_succ(l:List Nat)(i:Nat):wval (l.take (i+1))=wval (l.take i)+l.getD i 0*4294967296^i:=by
 by_cases h:i<l.length
 . rw[List.take_succ_eq_append_getElem h,wval_append]
   have:(l.take i).length=i:=by simp; omega
   rw[this]
   simp[wval,List.getD,h,Nat.mul_comm]
 . rw[List.take_of_length_le (by omega),List.take_of_length_le (by omega)]
   simp[List.getD,h]
theorem wval_take_all{l:List Nat}{i:Nat}(h:l.length<=i):wval (l.take i)=wval l:=by rw[List.take_of_length_le h]
theorem wval_take_set{l:List Nat}{i d:Nat}(h:i<l.length):wval ((l.set i d).take (i+1))=wval (l.take i)+d*4294967296^i:=by
 rw[wval_take_succ]
 have h1:(l.set i d).take i=l.take i:=by rw[List.take_set_of_le (Nat.le_refl i)]
 rw[h1]; simp[List.getD,h]
theorem wval_zeros(n:Nat):wval (List.replicate n 0)=0:=by
 induction n with
 | zero=>rfl
 | succ n ih=>simp[List.replicate_succ,wval,ih]
theorem wval_zero_of{l:List Nat}(h:∀d∈l,d=0):wval l=0:=by
 induction l with
 | nil=>rfl
 | cons d l ih=>simp[wval,h d (by simp),ih (λx hx=>h x (by simp[hx]))]
theorem wval_drop(l:List Nat)(i:Nat):wval l=wval (l.take i)+4294967296^(l.take i).length*wval (l.drop i):=by
 rw[<-wval_append,List.take_append_drop]
theorem dig_wval{l:List Nat}(h:WB l)(hl:∀d,l.getLast?=some d->d≠0):dig (wval l)=l:=by
 induction l with
 | nil=>simp[wval,dig_zero]
 | cons d l ih =>
   have hd:=h d (by simp)
   have hb:WB l:=λx hx=>h x (by simp[hx])
   have hne:wval (d::l)≠0:=by
    intro h0
    simp only[wval]at h0
    have hd0:d=0:=by omega
    have hw0:wval l=0:=by omega
    cases l with
    | nil=>exact hl d (by simp) hd0
    | cons e l =>
      have h1:=ih hb (λx hx=>hl x (by simpa [List.getLast?_cons_cons]using hx))
      rw[hw0,dig_zero]at h1; simp at h1
   rw[dig_pos hne]
   simp only[wval]
   have e1:(d+4294967296*wval l)%4294967296=d:=by omega
   have e2:(d+4294967296*wval l) / 4294967296=wval l:=by omega
   rw[e1,e2]
   cases l with
   | nil=>simp[wval,dig_zero]
   | cons e l=>rw[ih hb (λx hx=>hl x (by simpa [List.getLast?_cons_cons]using hx))]
theorem dig_last{n d:Nat}(h:(dig n).getLast?=some d):d≠0:=by
 induction n using Nat.strongRecOn with
 | _ n ih =>
   by_cases h0:n=0
   . subst h0; simp[dig_zero]at h
   . rw[dig_pos h0]at h
     by_cases h1:n / 4294967296=0
     . rw[h1,dig_zero]at h; simp at h; omega
     . rw[dig_pos h1,List.getLast?_cons_cons,<-dig_pos h1]at h
       exact ih _ (by omega) h
def wn(n:Nat):Nat:=(dig n).length
theorem wn_zero:wn 0=0:=by simp[wn,dig_zero]
theorem wn_eq_zero{n:Nat}:wn n=0↔n=0:=by
 constructor
 . intro h
   rcases Nat.eq_zero_or_pos n with h0|h0
   . exact h0
   . simp[wn,dig_pos (by omega:n≠0)]at h
 . rintro rfl; exact wn_zero
theorem lt_wn(n:Nat):n<4294967296^wn n:=by
 have:=wval_lt (WB_dig n)
 rwa[wval_dig]at this
theorem wn_le{n:Nat}(h:n≠0):4294967296^(wn n-1)<=n:=by
 induction n using Nat.strongRecOn with
 | _ n ih =>
   simp only[wn,dig_pos h,List.length_cons,Nat.add_sub_cancel]
   by_cases h1:n / 4294967296=0
   . rw[h1,dig_zero]; simp; omega
   . have h2:=ih _ (by omega) h1
     have h3:wn (n / 4294967296)≠0:=by rw[Ne,wn_eq_zero]; exact h1
     have e:(dig (n / 4294967296)).length=wn (n / 4294967296)-1+1:=by simp only[wn]at h3 ⊢; omega
     rw[e,Nat.pow_succ]
     have:=Nat.mul_le_mul_right 4294967296 h2
     omega
theorem wn_le_of_lt{n k:Nat}(h:n<4294967296^k):wn n<=k:=by
 rcases Nat.eq_zero_or_pos n with h0|h0
 . subst h0; simp[wn_zero]
 . rcases Nat.lt_or_ge k (wn n)with h1|h1
   . exfalso
     have h2:=wn_le (by omega:n≠0)
     have h3:4294967296^k<=4294967296^(wn n-1):=Nat.pow_le_pow_right (by omega) (by omega)
     omega
   . exact h1
theorem wn_mono{a b:Nat}(h:a<=b):wn a<=wn b:=wn_le_of_lt (Nat.lt_of_le_of_lt h (lt_wn b))
theorem wn_add_le(a b:Nat):wn (a+b)<=max (wn a) (wn b)+1:=by
 refine wn_le_of_lt ?_
 have h1:=lt_wn a
 have h2:=lt_wn b
 have h3:4294967296^wn a<=4294967296^max (wn a) (wn b):=Nat.pow_le_pow_right (by omega) (by omega)
 have h4:4294967296^wn b<=4294967296^max (wn a) (wn b):=Nat.pow_le_pow_right (by omega) (by omega)
 rw[Nat.pow_succ]; omega
theorem wn_mul_le(a b:Nat):wn (a*b)<=wn a+wn b:=by
 refine wn_le_of_lt ?_
 rw[Nat.pow_add]
 exact Nat.mul_lt_mul'' (lt_wn a) (lt_wn b)
theorem wn_lt_pow{n k:Nat}(h:n<2^(32*k)):wn n<=k:=by
 refine wn_le_of_lt ?_
 have:(4294967296:Nat)=2^32:=rfl
 rw[this,<-Nat.pow_mul]; exact h
structure Words (V:View) (s:Sl) (l:List Nat):Prop where
 load:∀(i d:Nat),l[i]?=Option.some d->V.load (s.a.map (·.add i))=some (.int .u32 (d:Int))
 len:s.len=l.length
 cap:s.len<=s.cap
 wb:WB l
def NatAt(V:View)(s:Sl)(n:Nat):Prop:=Words V s (dig n)
theorem Words.le{V V':View}{s:Sl}{l:List Nat}(hle:V.le V')(h:Words V s l):Words V' s l :=
 ⟨λi d hi=>View.load_le hle (h.load i d hi),h.len,h.cap,h.wb⟩
theorem NatAt.le{V V':View}{s:Sl}{n:Nat}(hle:V.le V')(h:NatAt V s n):NatAt V' s n:=Words.le hle h
theorem Words.isSome{V:View}{s:Sl}{l:List Nat}(h:Words V s l)(hl:0<s.len):s.a.isSome=true:=by
 have hl':0<l.length:=by rw[<-h.len]; exact hl
 have:=h.load 0 _ (List.getElem?_eq_getElem hl')
 cases ha:s.a with
 | none=>rw[ha]at this; simp[View.load]at this
 | some a=>rfl
theorem Words.get{V:View}{s:Sl}{l:List Nat}(h:Words V s l){i:Int}(h0:0<=i)(h1:i<s.len) :
 V.load (Option.map (λq=>Addr.add q (Int.toNat i*1)) s.a)=some (.int .u32 (l.getD i.toNat 0:Nat)):=by
 have hi:i.toNat<l.length:=by have:=h.len; omega
 have:=h.load i.toNat _ (List.getElem?_eq_getElem hi)
 simpa [List.getD,hi]using this
theorem Words.getD_lt{V:View}{s:Sl}{l:List Nat}(h:Words V s l)(i:Nat):l.getD i 0<4294967296:=by
 by_cases hi:i<l.length
 . have:=h.wb (l[i]) (List.getElem_mem _)
   simpa [List.getD,hi]using this
 . simp[List.getD,hi]
theorem WB.getD{l:List Nat}(h:WB l)(i:Nat):l.getD i 0<4294967296:=by
 by_cases hi:i<l.length
 . have:=h (l[i]) (List.getElem_mem _)
   simpa [List.getD,hi]using this
 . simp[List.getD,hi]
theorem WB.set{l:List Nat}(h:WB l){i d:Nat}(hd:d<4294967296):WB (l.set i d):=by
 intro x hx
 rcases List.mem_or_eq_of_mem_set hx with h1|h1
 . exact h x h1
 . omega
theorem WB.zeros(n:Nat):WB (List.replicate n 0):=λd hd=>by rw[(List.mem_replicate.1 hd).2]; omega
theorem WB.take{l:List Nat}(h:WB l)(n:Nat):WB (l.take n):=λd hd=>h d (List.mem_of_mem_take hd)
theorem Words.nil(V:View):Words V (Sl.mk none 0 0) []:=⟨λi d h=>by simp at h,rfl,by simp,λd h=>by simp at h⟩
theorem NatAt.zero(V:View):NatAt V (Sl.mk none 0 0) 0:=by unfold NatAt; rw[dig_zero]; exact Words.nil V
theorem Words.nat{V:View}{s:Sl}{l:List Nat}(h:Words V s l)(hl:∀d,l.getLast?=some d->d≠0):NatAt V s (wval l):=by
 unfold NatAt; rw[dig_wval h.wb hl]; exact h
theorem Words.inj{V:View}{s:Sl}{a b:List Nat}(h1:Words V s a)(h2:Words V s b):a=b:=by
 have l1:=h1.len
 have l2:=h2.len
 apply List.ext_getElem?
 intro j
 by_cases hj:j<a.length
 . have g1:=h1.load j _ (List.getElem?_eq_getElem hj)
   have g2:=h2.load j _ (List.getElem?_eq_getElem (by omega))
   rw[g1]at g2
   simp only[Option.some.injEq,Value.int.injEq,true_and]at g2
   rw[List.getElem?_eq_getElem hj,List.getElem?_eq_getElem (by omega)]
   congr 1
   omega
 . rw[List.getElem?_eq_none (by omega),List.getElem?_eq_none (by omega)]
theorem NatAt.inj{V:View}{s:Sl}{a b:Nat}(h1:NatAt V s a)(h2:NatAt V s b):a=b:=by
 rw[<-wval_dig a,<-wval_dig b,Words.inj h1 h2]
theorem NatAt.isSome{V:View}{s:Sl}{n:Nat}(h:NatAt V s n)(hl:0<s.len):s.a.isSome=true:=Words.isSome h hl
theorem NatAt.get{V:View}{s:Sl}{n:Nat}(h:NatAt V s n){i:Int}(h0:0<=i)(h1:i<s.len) :
 V.load (Option.map (λq=>Addr.add q (Int.toNat i*1)) s.a)=some (.int .u32 ((dig n).getD i.toNat 0:Nat)):=Words.get h h0 h1
theorem NatAt.getD_lt{V:View}{s:Sl}{n:Nat}(h:NatAt V s n)(i:Nat):(dig n).getD i 0<4294967296:=Words.getD_lt h i
theorem NatAt.len{V:View}{s:Sl}{n:Nat}(h:NatAt V s n):s.len=(dig n).length:=Words.len h
theorem Words.of_block{V:View}{b:Nat}{l:List Nat}{n c:Nat}(hb:V b = .some (wv l).toArray)(hn:n=l.length)(hc:n<=c)(hw:WB l):Words V (Sl.mk (.some (Addr.mk b 0 none)) n c) l:=by
 refine⟨λi d hi => ?_,hn,hc,hw⟩
 by_cases e:i=0
 . subst e; simp[View.load,Addr.add,hb,wv,hi]
 . simp[View.load,Addr.add,hb,wv,hi,e]
theorem wv_length(l:List Nat):(wv l).length=l.length:=by simp[wv]
theorem wv_get{l:List Nat}{i:Nat}(h:i<l.length):(wv l)[i]? = .some (.int .u32 (l.getD i 0:Nat)):=by simp[wv,List.getD,h]
theorem wv_set(l:List Nat)(i d:Nat):(wv l).set i (.int .u32 (d:Nat))=wv (l.set i d):=by simp[wv,List.map_set]
theorem wv_zeros(n:Nat):(List.replicate n [Value.int .u32 0]).flatten=wv (List.replicate n 0):=by
 induction n with
 | zero=>rfl
 | succ n ih=>simp[List.replicate_succ,ih,wv]
def natVal(V:View)(s:Sl):Nat:=wval ((List.range s.len).map λi=>match V.load (s.a.map (·.add i))with | .some (.int _ n)=>n.toNat|_=>0)
theorem natVal_eq{V:View}{s:Sl}{n:Nat}(h:NatAt V s n):natVal V s=n:=by
 unfold natVal
 have e:((List.range s.len).map λi=>match V.load (s.a.map (·.add i))with | .some (.int _ n)=>n.toNat|_=>0)=dig n:=by
  apply List.ext_getElem?
  intro i
  have hl:=h.len
  by_cases hi:i<s.len
  . have:=Words.load h i _ (List.getElem?_eq_getElem (by omega))
    simp[hi,this,List.getElem?_eq_getElem (by omega:i<(dig n).length)]
  . rw[List.getElem?_eq_none (by simp; omega),List.getElem?_eq_none (by omega)]
 rw[e,wval_dig]
theorem i64w{n:Int}(h0 : -9223372036854775808<=n)(h1:n<=9223372036854775807):IntKind.i64.wrap n=n:=IntWalk.i64_in n ⟨h0,h1⟩
theorem u64w{n:Int}(h0:0<=n)(h1:n<=18446744073709551615):IntKind.u64.wrap n=n:=IntWalk.u64_in n ⟨h0,h1⟩
theorem u32w{n:Int}(h0:0<=n)(h1:n<=4294967295):IntKind.u32.wrap n=n:=IntWalk.u32_in n ⟨h0,h1⟩
theorem u32m(n:Int):IntKind.u32.wrap n=n%4294967296:=by rw[IntKind.wrap_u32]
theorem u64m(n:Int):IntKind.u64.wrap n=n%18446744073709551616:=by simp[IntKind.wrap,IntKind.signed,IntKind.bits]
def ws(f:Nat->Nat):Nat->Nat
 | 0=>0
 | n+1=>ws f n+f n*4294967296^n
theorem ws_congr{f g:Nat->Nat}{n:Nat}(h:∀i,i<n->f i=g i):ws f n=ws g n:=by
 induction n with
 | zero=>rfl
 | succ n ih=>simp only[ws]; rw[ih (λi hi=>h i (by omega)),h n (by omega)]
theorem ws_take(l:List Nat)(n:Nat):ws (λi=>l.getD i 0) n=wval (l.take n):=by
 induction n with
 | zero=>simp[ws,wval]
 | succ n ih=>rw[wval_take_succ,<-ih]; rfl
theorem ws_lt{f:Nat->Nat}{n:Nat}(h:∀i,i<n->f i<4294967296):ws f n<4294967296^n:=by
 induction n with
 | zero=>simp[ws]
 | succ n ih =>
   have h1:=ih (λi hi=>h i (by omega))
   have h2:=Nat.mul_le_mul_right (4294967296^n) (Nat.succ_le_of_lt (h n (by omega)))
   simp only[ws,Nat.pow_succ]
   rw[Nat.succ_mul]at h2
   omega
theorem ws_add(f:Nat->Nat)(m n:Nat):ws f (m+n)=ws f m+4294967296^m*ws (λi=>f (m+i)) n:=by
 induction n with
 | zero=>simp[ws]
 | succ n ih =>
   show ws f (m+n)+f (m+n)*4294967296^(m+n)=_
   rw[ih]; simp only[ws,Nat.pow_add,Nat.mul_add]; grind
def seg(l:List Nat)(j k:Nat):Nat:=ws (λi=>l.getD (j+i) 0) k
theorem seg_zero(l:List Nat)(j:Nat):seg l j 0=0:=rfl
theorem seg_succ(l:List Nat)(j k:Nat):seg l j (k+1)=seg l j k+l.getD (j+k) 0*4294967296^k:=rfl
theorem seg_take(l:List Nat)(k:Nat):seg l 0 k=wval (l.take k):=by
 unfold seg; simp only[Nat.zero_add]; exact ws_take l k
theorem seg_all{l:List Nat}{k:Nat}(h:l.length<=k):seg l 0 k=wval l:=by rw[seg_take,wval_take_all h]
theorem seg_split(l:List Nat)(j m n:Nat):seg l j (m+n)=seg l j m+4294967296^m*seg l (j+m) n:=by
 unfold seg; rw[ws_add]
 congr 2
 exact ws_congr λi _=>by rw[Nat.add_assoc]
theorem seg_lt{l:List Nat}(h:WB l)(j k:Nat):seg l j k<4294967296^k:=ws_lt λ_ _=>h.getD _
theorem getD_set(l:List Nat)(p d i:Nat):(l.set p d).getD i 0=if i=p/\p<l.length then d else l.getD i 0:=by
 simp only[List.getD,List.getElem?_set]
 by_cases e:p=i
 . subst e
   by_cases h:p<l.length
   . simp[h]
   . simp[h]
 . have e':¬i=p:=λx=>e x.symm
   simp[e,e']
theorem seg_set_out{l:List Nat}{p d j k:Nat}(h:p<j\/j+k<=p):seg (l.set p d) j k=seg l j k:=by
 refine ws_congr λi hi => ?_
 rw[getD_set,if_neg (by omega)]
theorem seg_set_last{l:List Nat}{p d j k:Nat}(hp:p=j+k)(hl:p<l.length):seg (l.set p d) j (k+1)=seg l j k+d*4294967296^k:=by
 rw[seg_succ,seg_set_out (by omega),getD_set,if_pos (by omega)]
theorem seg_set{l:List Nat}{p d j k:Nat}(h1:j<=p)(h2:p<j+k)(hl:p<l.length):seg (l.set p d) j k+l.getD p 0*4294967296^(p-j)=seg l j k+d*4294967296^(p-j):=by
 induction k with
 | zero=>omega
 | succ k ih =>
   rcases Nat.lt_or_ge p (j+k)with h|h
   . have:=ih h
     rw[seg_succ,seg_succ,getD_set,if_neg (by omega)]; omega
   . have e:p=j+k:=by omega
     rw[seg_set_last e hl,seg_succ,show p-j=k by omega,<-e]; omega
theorem seg_rep(n j k:Nat):seg (List.replicate n 0) j k=0:=by
 induction k with
 | zero=>rfl
 | succ k ih =>
   rw[seg_succ,ih]
   have:(List.replicate n 0).getD (j+k) 0=0:=by
    simp only[List.getD,List.getElem?_replicate]; split<;>rfl
   rw[this]; simp
theorem guess_le{B v1 v2 P V W guess rest top u0:Nat}(hV:V<=(v1*B+v2+1)*P)(hW:(top*B+u0)*P<=W)
 (hg:guess*v1+rest=top) (hc:guess*v2<=rest*B+u0) (hB:guess<=v1*B+v2+1):(guess-1)*V<=W:=by
 rcases Nat.eq_zero_or_pos guess with h0|h0
 . subst h0; simp
 obtain⟨g,rfl⟩:∃g,guess=g+1:=⟨guess-1,by omega⟩
 simp only[Nat.add_sub_cancel]
 have h1:(g+1)*(v1*B+v2)<=top*B+u0:=by
  subst hg
  have:(g+1)*(v1*B+v2)=(g+1)*v1*B+(g+1)*v2:=by grind
  have h2:((g+1)*v1+rest)*B=(g+1)*v1*B+rest*B:=by grind
  omega
 have h2:g*(v1*B+v2+1)<=(g+1)*(v1*B+v2):=by
  have:g*(v1*B+v2+1)=g*(v1*B+v2)+g:=by grind
  have h3:(g+1)*(v1*B+v2)=g*(v1*B+v2)+(v1*B+v2):=by grind
  omega
 have h3:=Nat.mul_le_mul_left g hV
 have h4:=Nat.mul_le_mul_right P (Nat.le_trans h2 h1)
 have e:g*((v1*B+v2+1)*P)=g*(v1*B+v2+1)*P:=by grind
 omega
end Go.Vc
namespace Go.Vc
open Go
theorem wrap32_toNat(X:BitVec IntKind.u32.bits):IntKind.u32.wrap (X.toNat:Int)=X.toNat:=by
 have h:X.toNat<4294967296:=X.isLt
 exact u32w (by omega) (by omega)
theorem ofInt_toNat'{w:Nat}(X:BitVec w):BitVec.ofInt w (X.toNat:Int)=X:=by
 rw[BitVec.ofInt_natCast,BitVec.ofNat_toNat,BitVec.setWidth_eq]
theorem of32{n:Nat}(h:n<4294967296):(BitVec.ofInt 32 (n:Int)).toNat=n:=by
 rw[BitVec.ofInt_natCast,BitVec.toNat_ofNat]; exact Nat.mod_eq_of_lt h
theorem or64{a b:Nat}(ha:a<4294967296)(hb:b<4294967296) :
 BitVec.toNat ((BitVec.ofInt IntKind.u64.bits (((b*4294967296:Nat)):Int)) ||| (BitVec.ofInt IntKind.u64.bits ((a:Nat):Int)))=b*4294967296+a:=by
 have e:IntKind.u64.bits=64:=rfl
 rw[e,BitVec.ofInt_natCast,BitVec.ofInt_natCast,BitVec.toNat_or,BitVec.toNat_ofNat,BitVec.toNat_ofNat,Nat.mod_eq_of_lt (by omega),Nat.mod_eq_of_lt (by omega)]
 have:=Nat.two_pow_add_eq_or_of_lt (i:=32) (b:=a) (by omega) b
 rw[show b*4294967296=2^32*b by omega,<-this]
theorem or64'{a b:Nat}(ha:a<4294967296)(hb:b<4294967296) :
 BitVec.toNat ((BitVec.ofInt IntKind.u64.bits ((a:Nat):Int)) ||| (BitVec.ofInt IntKind.u64.bits (((b*4294967296:Nat)):Int)))=b*4294967296+a:=by
 rw[BitVec.or_comm]; exact or64 ha hb
theorem shr63(X:BitVec IntKind.u32.bits):Int.fdiv (X.toNat:Int) (2^(min (Int.toNat 31) (IntKind.u32.bits)))=X.msb.toNat:=by
 have e:(2:Int)^(min (Int.toNat 31) (IntKind.u32.bits))=2147483648:=by decide
 have h:X.toNat<4294967296:=X.isLt
 rw[e,Int.fdiv_eq_ediv_of_nonneg _ (by omega),BitVec.msb_eq_decide]
 have e2:2^(IntKind.u32.bits-1)=2147483648:=by decide
 rw[e2]
 by_cases hx:2147483648<=X.toNat
 . simp[hx]; omega
 . simp[hx]; omega
theorem sub32_msb{x y b:Nat}(hx:x<4294967296)(hy:y<4294967296)(hb:b<=1)(X Y D:BitVec 32)(hX:X.toNat=x)(hY:Y.toNat=y)(hD:D.toNat=(x+8589934592-y-b)%4294967296)(M:BitVec 32)(hM:M=BitVec.allOnes 32) :
 (((M ^^^ X) &&& Y) ||| ((M ^^^ (X ^^^ Y)) &&& D)).msb.toNat=if x<y+b then 1 else 0:=by
 subst hM
 simp only[BitVec.msb_or,BitVec.msb_and,BitVec.msb_xor,BitVec.msb_allOnes (w:=32) (by omega)]
 simp only[BitVec.msb_eq_decide,hX,hY,hD]
 have e2:2^(32-1)=2147483648:=by decide
 rw[e2]
 by_cases h1:2147483648<=x<;>by_cases h2:2147483648<=y<;>by_cases h3:2147483648<=(x+8589934592-y-b)%4294967296<;>simp[h1,h2,h3]<;>omega
theorem dig_getD(a i:Nat):(dig a).getD i 0=a / 4294967296^i%4294967296:=by
 induction i generalizing a with
 | zero =>
   by_cases h:a=0
   . subst h; simp[dig_zero]
   . rw[dig_pos h]; simp
 | succ i ih =>
   by_cases h:a=0
   . subst h; simp[dig_zero]
   . rw[dig_pos h,List.getD_cons_succ,ih,Nat.pow_succ,Nat.mul_comm,Nat.div_div_eq_div_mul]
def bl(n:Nat):Nat:=if n=0 then 0 else Nat.log2 n+1
theorem bl_zero:bl 0=0:=by simp[bl]
theorem lt_bl(n:Nat):n<2^bl n:=by
 unfold bl; split
 . omega
 . exact Nat.lt_log2_self
theorem bl_le{n:Nat}(h:n≠0):2^(bl n-1)<=n:=by
 simp only[bl,h,if_false,Nat.add_sub_cancel]; exact Nat.log2_self_le h
theorem bl_pos{n:Nat}(h:n≠0):0<bl n:=by simp[bl,h]
theorem bl_eq{n k:Nat}(h1:2^k<=n)(h2:n<2^(k+1)):bl n=k+1:=by
 have h0:n≠0:=by have:=Nat.two_pow_pos k; omega
 have a1:=lt_bl n
 have a2:=bl_le h0
 have a3:=bl_pos h0
 have b1:k<bl n:=(Nat.pow_lt_pow_iff_right (a:=2) (by omega)).1 (Nat.lt_of_le_of_lt h1 a1)
 have b2:bl n-1<k+1:=(Nat.pow_lt_pow_iff_right (a:=2) (by omega)).1 (Nat.lt_of_le_of_lt a2 h2)
 omega
theorem bl_shift{n m:Nat}(k:Nat)(h0:n≠0)(h1:n*2^k<=m)(h2:m<(n+1)*2^k):bl m=bl n+k:=by
 have a1:=lt_bl n
 have a2:=bl_le h0
 have a3:=bl_pos h0
 have e:bl n+k=(bl n-1+k)+1:=by omega
 rw[e]
 refine bl_eq ?_ ?_
 . rw[Nat.pow_add]; exact Nat.le_trans (Nat.mul_le_mul_right _ a2) h1
 . rw[show bl n-1+k+1=bl n+k by omega,Nat.pow_add]; exact Nat.lt_of_lt_of_le h2 (Nat.mul_le_mul_right _ a1)
theorem bl_div{m:Nat}(k:Nat)(h:2^k<=m):bl m=bl (m / 2^k)+k:=by
 have hp:=Nat.two_pow_pos k
 have hd:0<m / 2^k:=Nat.div_pos h hp
 refine bl_shift k (by omega) (Nat.div_mul_le_self _ _) ?_
 have:=Nat.lt_succ_iff.2 (Nat.le_refl (m / 2^k))
 exact(Nat.div_lt_iff_lt_mul hp).1 this
theorem td32(n:Nat):Int.tdiv (n:Int) 32=((n / 32:Nat):Int):=(Int.ofNat_tdiv n 32).symm
theorem tm32(n:Nat):Int.tmod (n:Int) 32=((n%32:Nat):Int):=(Int.ofNat_tmod n 32).symm
theorem orDisj{r h lo:Nat}(hh:h<2^r):(h ||| lo*2^r)=h+lo*2^r:=by
 have:=Nat.two_pow_add_eq_or_of_lt hh lo
 rw[Nat.or_comm,show lo*2^r=2^r*lo by rw[Nat.mul_comm],<-this]; omega
theorem or32v{a b:Nat}(ha:a<4294967296)(hb:b<4294967296) :
 BitVec.toNat ((BitVec.ofInt IntKind.u32.bits ((a:Nat):Int)) ||| (BitVec.ofInt IntKind.u32.bits ((b:Nat):Int)))=a ||| b:=by
 have e:IntKind.u32.bits=32:=rfl
 rw[e,BitVec.ofInt_natCast,BitVec.ofInt_natCast,BitVec.toNat_or,BitVec.toNat_ofNat,BitVec.toNat_ofNat,Nat.mod_eq_of_lt (by omega),Nat.mod_eq_of_lt (by omega)]
structure Guess (P vN v1 v2 u2 u1 u0 W:Nat):Prop where
 h1:v1<4294967296
 h2:v2<4294967296
 pos:0<v1
 k2:u2<=v1
 k1:u1<4294967296
 k0:u0<4294967296
 vlo:(v1*4294967296+v2)*P<=vN
 vhi:vN<=(v1*4294967296+v2+1)*P
 wlo:((u2*4294967296+u1)*4294967296+u0)*P<=W
 whi:W<((u2*4294967296+u1)*4294967296+u0+1)*P
 lt:W<4294967296*vN
theorem Guess.big{P vN v1 v2 u2 u1 u0 W:Nat}(h:Guess P vN v1 v2 u2 u1 u0 W){q:Nat}(hq:q*vN<=W):q*(v1*4294967296+v2)<(u2*4294967296+u1)*4294967296+u0+1:=by
 rcases Nat.lt_or_ge (q*(v1*4294967296+v2)) ((u2*4294967296+u1)*4294967296+u0+1)with h1|h1
 . exact h1
 . exfalso
   have h2:=Nat.mul_le_mul_right P h1
   have h3:=Nat.mul_le_mul_left q h.vlo
   rw[<-Nat.mul_assoc]at h3
   have:=h.whi
   omega
theorem Guess.init{P vN v1 v2 u2 u1 u0 W:Nat}(h:Guess P vN v1 v2 u2 u1 u0 W):W / vN<=(u2*4294967296+u1) / v1:=by
 rw[Nat.le_div_iff_mul_le h.pos]
 have h1:=h.big (Nat.div_mul_le_self W vN)
 generalize W / vN=q at *
 have hu0:=h.k0
 have e:q*(v1*4294967296+v2)=q*v1*4294967296+q*v2:=by rw[Nat.mul_add,Nat.mul_assoc]
 rw[e]at h1
 omega
theorem Guess.quo{P vN v1 v2 u2 u1 u0 W:Nat}(h:Guess P vN v1 v2 u2 u1 u0 W):W / vN<4294967296:=by
 have:=h.lt
 rw[Nat.div_lt_iff_lt_mul]
 . exact this
 . rcases Nat.eq_zero_or_pos vN with h0|h0
   . subst h0; omega
   . exact h0
theorem Guess.dec{P vN v1 v2 u2 u1 u0 W g r:Nat}(h:Guess P vN v1 v2 u2 u1 u0 W)(hg:g*v1+r=u2*4294967296+u1)(hc:r*4294967296+u0<g*v2):W / vN<g:=by
 have h1:=h.big (Nat.div_mul_le_self W vN)
 generalize W / vN=q at *
 rcases Nat.lt_or_ge q g with h2|h2
 . exact h2
 . exfalso
   have h3:=Nat.mul_le_mul_right (v1*4294967296+v2) h2
   have e:g*(v1*4294967296+v2)=g*v1*4294967296+g*v2:=by rw[Nat.mul_add,Nat.mul_assoc]
   omega
theorem Guess.exit{P vN v1 v2 u2 u1 u0 W g r:Nat}(h:Guess P vN v1 v2 u2 u1 u0 W)(hg:g*v1+r=u2*4294967296+u1)(hB:g<4294967296)(hc:g*v2<=r*4294967296+u0):(g-1)*vN<=W:=by
 have:=h.pos
 exact guess_le h.vhi h.wlo hg hc (by omega)
theorem Guess.brk{P vN v1 v2 u2 u1 u0 W g r:Nat}(h:Guess P vN v1 v2 u2 u1 u0 W)(hg:g*v1+r=u2*4294967296+u1)(h0:0<g)(hr:4294967296<=r+v1):g-1<4294967296/\(g-1-1)*vN<=W:=by
 obtain⟨g,rfl⟩:∃k,g=k+1:=⟨g-1,by omega⟩
 simp only[Nat.add_sub_cancel]
 have hg':g*v1+(r+v1)=u2*4294967296+u1:=by rw[Nat.succ_mul]at hg; omega
 have hB:g<4294967296:=by
  rcases Nat.lt_or_ge g 4294967296 with h1|h1
  . exact h1
  . exfalso
    have h2:=Nat.mul_le_mul_right v1 h1
    have:=h.k2
    have:=h.k1
    omega
 refine⟨hB,h.exit hg' hB ?_⟩
 have:=Nat.mul_le_mul (Nat.le_of_lt hB) (Nat.le_of_lt h.h2)
 have h3:=Nat.mul_le_mul_right 4294967296 hr
 omega
theorem seg_three(l:List Nat)(j k:Nat):seg l j (k+1+1+1)=seg l j k+((l.getD (j+k+2) 0*4294967296+l.getD (j+k+1) 0)*4294967296+l.getD (j+k) 0)*4294967296^k:=by
 rw[seg_succ,seg_succ,seg_succ,Nat.pow_succ,Nat.pow_succ,Nat.pow_succ,show j+(k+1+1)=j+k+2 by omega,show j+(k+1)=j+k+1 by omega]
 grind
theorem seg_two(l:List Nat)(j k:Nat):seg l j (k+1+1)=seg l j k+(l.getD (j+k+1) 0*4294967296+l.getD (j+k) 0)*4294967296^k:=by
 rw[seg_succ,seg_succ,Nat.pow_succ,show j+(k+1)=j+k+1 by omega]
 grind
theorem seg_dig(n:Nat){k:Nat}(h:wn n<=k):seg (dig n) 0 k=n:=by rw[seg_all h,wval_dig]
theorem guess_of{n vN j:Nat}{u:List Nat}(hu:WB u)(hn:2<=n)(hv:wn vN=n)(hc:seg u (j+1) n<vN) :
 Guess (4294967296^(n-2)) vN ((dig vN).getD (n-1) 0) ((dig vN).getD (n-2) 0) (u.getD (j+n) 0) (u.getD (j+n-1) 0) (u.getD (j+n-2) 0) (seg u j (n+1)):=by
 obtain⟨k,rfl⟩:∃k,n=k+2:=⟨n-2,by omega⟩
 have e1:k+2-1=k+1:=rfl
 have e2:k+2-2=k:=rfl
 have e3:j+(k+2)=j+k+2:=rfl
 have e4:j+k+2-1=j+k+1:=rfl
 have e5:j+k+2-2=j+k:=rfl
 rw[e1,e2,e3,e4,e5]
 have hw:=WB_dig vN
 have hvs:=seg_dig vN (Nat.le_of_eq hv)
 rw[seg_two,Nat.zero_add]at hvs
 have b1:=seg_lt hw 0 k
 have b2:=seg_lt hu j k
 have hP:0<4294967296^k:=Nat.pow_pos (by omega)
 have top:=seg_succ u (j+1) (k+1)
 rw[show j+1+(k+1)=j+k+2 by omega]at top
 have hw1:seg u j (k+2+1)=u.getD j 0+4294967296*seg u (j+1) (k+2):=by
  rw[show k+2+1=1+(k+2)by omega,seg_split,seg_succ,seg_zero]; simp
 have b3:=hu.getD j
 refine⟨hw.getD _,hw.getD _,?_,?_,hu.getD _,hu.getD _,by omega,by rw[Nat.succ_mul]; omega,?_,?_,by rw[hw1]; omega⟩
 . rcases Nat.eq_zero_or_pos ((dig vN).getD (k+1) 0)with h0|h0
   . exfalso
     have hl:wn vN=k+2:=hv
     have h1:vN≠0:=by rintro rfl; rw[wn_zero]at hl; omega
     have h2:(dig vN).getLast?=some ((dig vN).getD (k+1) 0):=by
      rw[List.getLast?_eq_getElem?]
      simp only[wn]at hl
      simp only[List.getD]
      rw[hl,show k+2-1=k+1 by omega,List.getElem?_eq_getElem (by omega)]; rfl
     exact dig_last h2 h0
   . exact h0
 ·
   rcases Nat.lt_or_ge ((dig vN).getD (k+1) 0) (u.getD (j+k+2) 0)with h0|h0
   . exfalso
     have h1:=Nat.mul_le_mul_right (4294967296^(k+1)) (Nat.succ_le_of_lt h0)
     rw[Nat.succ_mul,Nat.pow_succ]at h1
     rw[show k+1+1=k+2 by omega,Nat.pow_succ]at top
     have h2:=hw.getD k
     have h3:=Nat.mul_le_mul_right (4294967296^k) (Nat.succ_le_of_lt h2)
     rw[Nat.succ_mul]at h3
     have e6:∀z,z*(4294967296^k*4294967296)=z*4294967296*4294967296^k:=by intro z; grind
     simp only[e6]at h1 top
     rw[Nat.add_mul]at hvs
     omega
   . exact h0
 . rw[show k+2+1=k+1+1+1 by omega,seg_three]; omega
 . rw[show k+2+1=k+1+1+1 by omega,seg_three,Nat.succ_mul]; omega
theorem setL_app{α:Type}(l:List α)(off:Nat)(vs:List α)(h:off+vs.length<=l.length):setL l off vs=l.take off++vs++l.drop (off+vs.length):=by
 induction vs generalizing l off with
 | nil=>simp[setL]
 | cons v vs ih =>
   simp only[List.length_cons]at h
   rw[setL,ih _ _ (by simp; omega)]
   apply List.ext_getElem?
   intro i
   simp only[List.getElem?_append,List.getElem?_take,List.getElem?_drop,List.getElem?_set,List.length_append,List.length_take,List.length_set,List.length_cons,List.getElem?_cons]
   have e1:min (off+1) l.length=off+1:=by omega
   have e2:min off l.length=off:=by omega
   rw[e1,e2]
   by_cases c1:i<off
   . have c2:¬off=i:=by omega
     simp[c1,c2,show i<off+1+vs.length by omega,show i<off+1 by omega,show i<off+(vs.length+1)by omega]
   . by_cases c2:i=off
     . subst c2
       simp[show i<i+1+vs.length by omega,show i<l.length by omega]
     . have c3:¬off=i:=λx=>c2 x.symm
       have c4:¬i<off+1:=by omega
       have c5:i-off≠0:=by omega
       simp only[c1,c4,if_false,c3]
       by_cases c6:i<off+1+vs.length
       . simp[c6,show i<off+(vs.length+1)by omega,c5,show i-off-1=i-(off+1)by omega]
       . simp only[c6,show ¬i<off+(vs.length+1)by omega,if_false]
         rw[if_neg (by omega)]
         congr 1; omega
theorem setL_wv(n:Nat)(d:List Nat)(h:d.length<=n):setL (wv (List.replicate n 0)) 0 (wv d)=wv (d++List.replicate (n-d.length) 0):=by
 rw[setL_app _ _ _ (by simp[wv]; omega)]
 simp[wv]
theorem wval_pad(d:List Nat)(n:Nat):wval (d++List.replicate n 0)=wval d:=by rw[wval_append,wval_zeros]; simp
structure Cq where
 re:Rat
 im:Rat
theorem Cq.ext'{x y:Cq}(h1:x.re=y.re)(h2:x.im=y.im):x=y:=by cases x; cases y; cases h1; cases h2; rfl
instance:DecidableEq Cq:=λx y=>if h1:x.re=y.re then if h2:x.im=y.im then .isTrue (Cq.ext' h1 h2)else .isFalse (λe=>h2 (by rw[e]))else .isFalse (λe=>h1 (by rw[e]))
instance:Add Cq:=⟨λx y=>⟨x.re+y.re,x.im+y.im⟩⟩
instance:Neg Cq:=⟨λx=>⟨-x.re,-x.im⟩⟩
instance:Sub Cq:=⟨λx y=>⟨x.re-y.re,x.im-y.im⟩⟩
instance:Mul Cq:=⟨λx y=>⟨x.re*y.re-x.im*y.im,x.re*y.im+x.im*y.re⟩⟩
def Cq.conj(x:Cq):Cq:=⟨x.re,-x.im⟩
def Cq.zero:Cq:=⟨0,0⟩
theorem Cq.add_re(x y:Cq):(x+y).re=x.re+y.re:=rfl
theorem Cq.add_im(x y:Cq):(x+y).im=x.im+y.im:=rfl
theorem Cq.sub_re(x y:Cq):(x-y).re=x.re-y.re:=rfl
theorem Cq.sub_im(x y:Cq):(x-y).im=x.im-y.im:=rfl
theorem Cq.neg_re(x:Cq):(-x).re = -x.re:=rfl
theorem Cq.neg_im(x:Cq):(-x).im = -x.im:=rfl
theorem Cq.mul_re(x y:Cq):(x*y).re=x.re*y.re-x.im*y.im:=rfl
theorem Cq.mul_im(x y:Cq):(x*y).im=x.re*y.im+x.im*y.re:=rfl
theorem Cq.conj_im(x:Cq):x.conj.im = -x.im:=rfl
structure Rep (z:Cq) (A B:Int) (D:Nat):Prop where
 pos:D≠0
 re:z.re=(A:Rat) / (D:Rat)
 im:z.im=(B:Rat) / (D:Rat)
structure Canon (z:Cq) (A B:Int) (D:Nat):Prop where
 rep:Rep z A B D
 cop:Nat.gcd (Nat.gcd A.natAbs B.natAbs) D=1
theorem natCast_ne{D:Nat}(h:D≠0):(D:Rat)≠0:=by simpa using h
theorem div_eq_div_iff'{A A':Int}{D D':Nat}(h:D≠0)(h':D'≠0):(A:Rat) / (D:Rat)=(A':Rat) / (D':Rat)↔A*D'=A'*D:=by
 rw[<-Rat.mkRat_eq_div,<-Rat.mkRat_eq_div,Rat.mkRat_eq_iff h h']
theorem Canon.dvd{z:Cq}{A B A' B':Int}{D D':Nat}(h:Canon z A B D)(h':Rep z A' B' D'):D ∣ D':=by
 have e1:=(div_eq_div_iff' h.rep.pos h'.pos).1 (h.rep.re.symm.trans h'.re)
 have e2:=(div_eq_div_iff' h.rep.pos h'.pos).1 (h.rep.im.symm.trans h'.im)
 have f1:D ∣ A.natAbs*D':=by
  have:=congrArg Int.natAbs e1
  rw[Int.natAbs_mul,Int.natAbs_mul,Int.natAbs_natCast,Int.natAbs_natCast]at this
  exact⟨A'.natAbs,by rw[this,Nat.mul_comm]⟩
 have f2:D ∣ B.natAbs*D':=by
  have:=congrArg Int.natAbs e2
  rw[Int.natAbs_mul,Int.natAbs_mul,Int.natAbs_natCast,Int.natAbs_natCast]at this
  exact⟨B'.natAbs,by rw[this,Nat.mul_comm]⟩
 have f3:=Nat.dvd_gcd f1 f2
 rw[Nat.gcd_mul_right]at f3
 have hc:Nat.Coprime D (Nat.gcd A.natAbs B.natAbs):=by rw[Nat.Coprime,Nat.gcd_comm]; exact h.cop
 exact hc.dvd_of_dvd_mul_left f3
theorem Canon.inj{z:Cq}{A B A' B':Int}{D D':Nat}(h:Canon z A B D)(h':Canon z A' B' D'):A=A'/\B=B'/\D=D':=by
 have hD:D=D':=Nat.dvd_antisymm (h.dvd h'.rep) (h'.dvd h.rep)
 subst hD
 have e1:=(div_eq_div_iff' h.rep.pos h'.rep.pos).1 (h.rep.re.symm.trans h'.rep.re)
 have e2:=(div_eq_div_iff' h.rep.pos h'.rep.pos).1 (h.rep.im.symm.trans h'.rep.im)
 have hD:(D:Int)≠0:=by have:=h.rep.pos; omega
 exact⟨Int.eq_of_mul_eq_mul_right hD e1,Int.eq_of_mul_eq_mul_right hD e2,rfl⟩
def gcd3(A B:Int)(D:Nat):Nat:=Nat.gcd (Nat.gcd A.natAbs B.natAbs) D
theorem gcd3_pos(A B:Int){D:Nat}(h:D≠0):0<gcd3 A B D:=Nat.gcd_pos_of_pos_right _ (by omega)
theorem gcd3_dvd1(A B:Int)(D:Nat):gcd3 A B D ∣ A.natAbs:=Nat.dvd_trans (Nat.gcd_dvd_left _ _) (Nat.gcd_dvd_left _ _)
theorem gcd3_dvd2(A B:Int)(D:Nat):gcd3 A B D ∣ B.natAbs:=Nat.dvd_trans (Nat.gcd_dvd_left _ _) (Nat.gcd_dvd_right _ _)
theorem gcd3_dvd3(A B:Int)(D:Nat):gcd3 A B D ∣ D:=Nat.gcd_dvd_right _ _
theorem natAbs_div{A:Int}{g:Nat}(h:g ∣ A.natAbs):(A / (g:Int)).natAbs=A.natAbs / g:=by
 obtain⟨k,hk⟩:=h
 rcases Nat.eq_zero_or_pos g with h0|h0
 . subst h0; simp
 . have hg:(g:Int)≠0:=by omega
   rcases Int.natAbs_eq A with e|e
   . rw[hk]at e; rw[e,Int.natCast_mul,Int.mul_ediv_cancel_left _ hg,Int.natAbs_natCast,Int.natAbs_mul,Int.natAbs_natCast,Int.natAbs_natCast,Nat.mul_div_cancel_left _ h0]
   . rw[hk]at e; rw[e,Int.natCast_mul,<-Int.mul_neg,Int.mul_ediv_cancel_left _ hg,Int.natAbs_neg,Int.natAbs_natCast,Int.natAbs_mul,Int.natAbs_natCast,Int.natAbs_neg,Int.natAbs_natCast,Nat.mul_div_cancel_left _ h0]
theorem div_mul_of{A:Int}{g:Nat}(h:g ∣ A.natAbs):A / (g:Int)*g=A:=Int.ediv_mul_cancel (Int.ofNat_dvd_left.2 h)
theorem div_lt_zero{A:Int}{g:Nat}(h:g ∣ A.natAbs)(hg:0<g):decide (A / (g:Int)<0)=decide (A<0):=by
 have e:=div_mul_of h
 have hg':(0:Int)<g:=by omega
 have:A / (g:Int)<0↔A<0:=by
  constructor
  . intro h1
    have:=Int.mul_neg_of_neg_of_pos h1 hg'
    omega
  . intro h1
    rcases Int.lt_or_le (A / (g:Int)) 0 with h2|h2
    . exact h2
    . have:=Int.mul_nonneg h2 (Int.le_of_lt hg'); omega
 simp[this]
theorem Rep.canon{z:Cq}{A B:Int}{D:Nat}(h:Rep z A B D):Canon z (A / (gcd3 A B D:Nat)) (B / (gcd3 A B D:Nat)) (D / gcd3 A B D):=by
 have hg:=gcd3_pos A B h.pos
 have d1:=gcd3_dvd1 A B D
 have d2:=gcd3_dvd2 A B D
 have d3:=gcd3_dvd3 A B D
 have hne:D / gcd3 A B D≠0:=by
  have:=Nat.div_pos (Nat.le_of_dvd (by have:=h.pos; omega) d3) hg
  omega
 have key:∀ {C:Int},gcd3 A B D ∣ C.natAbs->(C:Rat) / (D:Rat)=((C / (gcd3 A B D:Nat):Int):Rat) / ((D / gcd3 A B D:Nat):Rat):=by
  intro C hC
  rw[div_eq_div_iff' h.pos hne]
  have e1:=div_mul_of hC
  have e2:=Nat.div_mul_cancel d3
  have e3:(D:Int)=((D / gcd3 A B D:Nat):Int)*(gcd3 A B D:Nat):=by rw[<-Int.natCast_mul,e2]
  generalize (C / (gcd3 A B D:Nat):Int)=q at *
  generalize D / gcd3 A B D=m at *
  generalize gcd3 A B D=g at *
  rw[<-e1,e3]
  grind
 refine⟨⟨hne,h.re.trans (key d1),h.im.trans (key d2)⟩,?_⟩
 rw[natAbs_div d1,natAbs_div d2,Nat.gcd_div d1 d2,Nat.gcd_div (Nat.dvd_gcd d1 d2) d3]
 exact Nat.div_self hg
theorem Cq.rep(z:Cq):Rep z (z.re.num*z.im.den) (z.im.num*z.re.den) (z.re.den*z.im.den):=by
 have h1:=z.re.den_nz
 have h2:=z.im.den_nz
 have h3:=Nat.mul_ne_zero h1 h2
 refine⟨h3,?_,?_⟩
 . conv=>lhs; rw[<-Rat.mkRat_self z.re,Rat.mkRat_eq_div]
   rw[div_eq_div_iff' h1 h3]
   rw[Int.natCast_mul]; grind
 . conv=>lhs; rw[<-Rat.mkRat_self z.im,Rat.mkRat_eq_div]
   rw[div_eq_div_iff' h2 h3]
   rw[Int.natCast_mul]; grind
def Cq.g(z:Cq):Nat:=gcd3 (z.re.num*z.im.den) (z.im.num*z.re.den) (z.re.den*z.im.den)
def Cq.A(z:Cq):Int:=z.re.num*z.im.den / (z.g:Int)
def Cq.B(z:Cq):Int:=z.im.num*z.re.den / (z.g:Int)
def Cq.D(z:Cq):Nat:=z.re.den*z.im.den / z.g
theorem Cq.canon(z:Cq):Canon z z.A z.B z.D:=z.rep.canon
theorem Cq.D_pos(z:Cq):z.D≠0:=z.canon.rep.pos
theorem Canon.eqs{z:Cq}{A B:Int}{D:Nat}(h:Canon z A B D):z.A=A/\z.B=B/\z.D=D:=z.canon.inj h
theorem Rep.eqs{z:Cq}{A B:Int}{D:Nat}(h:Rep z A B D):z.A=A / (gcd3 A B D:Nat)/\z.B=B / (gcd3 A B D:Nat)/\z.D=D / gcd3 A B D:=h.canon.eqs
theorem Cq.eq_of{z w:Cq}(h1:z.A=w.A)(h2:z.B=w.B)(h3:z.D=w.D):z=w:=by
 have a:=z.canon.rep
 have b:=w.canon.rep
 exact Cq.ext' (by rw[a.re,b.re,h1,h3]) (by rw[a.im,b.im,h2,h3])
def Cq.sz(z:Cq):Nat:=max (bl z.A.natAbs) (max (bl z.B.natAbs) (bl z.D))
theorem bl_mono{a b:Nat}(h:a<=b):bl a<=bl b:=by
 rcases Nat.eq_zero_or_pos a with h0|h0
 . subst h0; simp[bl_zero]
 . have h1:=bl_le (by omega:a≠0)
   have h2:=lt_bl b
   have:=(Nat.pow_lt_pow_iff_right (a:=2) (n:=bl a-1) (m:=bl b) (by omega)).1 (by omega)
   omega
theorem bl_le_of_lt{a k:Nat}(h:a<2^k):bl a<=k:=by
 rcases Nat.eq_zero_or_pos a with h0|h0
 . subst h0; simp[bl_zero]
 . have h1:=bl_le (by omega:a≠0)
   have:=(Nat.pow_lt_pow_iff_right (a:=2) (n:=bl a-1) (m:=k) (by omega)).1 (by omega)
   omega
theorem lt_of_bl{a k:Nat}(h:bl a<=k):a<2^k:=Nat.lt_of_lt_of_le (lt_bl a) (Nat.pow_le_pow_right (by omega) h)
theorem bl_mul(a b:Nat):bl (a*b)<=bl a+bl b:=by
 refine bl_le_of_lt ?_
 rw[Nat.pow_add]
 exact Nat.mul_lt_mul'' (lt_bl a) (lt_bl b)
theorem bl_add{a b k:Nat}(h1:bl a<=k)(h2:bl b<=k):bl (a+b)<=k+1:=by
 refine bl_le_of_lt ?_
 have:=lt_of_bl h1
 have:=lt_of_bl h2
 rw[Nat.pow_succ]; omega
theorem bl_addi{a b:Int}{k:Nat}(h1:bl a.natAbs<=k)(h2:bl b.natAbs<=k):bl (a+b).natAbs<=k+1 :=
 Nat.le_trans (bl_mono (Int.natAbs_add_le a b)) (bl_add h1 h2)
theorem bl_subi{a b:Int}{k:Nat}(h1:bl a.natAbs<=k)(h2:bl b.natAbs<=k):bl (a-b).natAbs<=k+1:=by
 rw[Int.sub_eq_add_neg]
 exact bl_addi h1 (by rw[Int.natAbs_neg]; exact h2)
theorem bl_muli(a b:Int):bl (a*b).natAbs<=bl a.natAbs+bl b.natAbs:=by rw[Int.natAbs_mul]; exact bl_mul _ _
theorem wn_bl{a k:Nat}(h:bl a<=32*k):wn a<=k:=wn_lt_pow (lt_of_bl h)
theorem Rep.sz{z:Cq}{A B:Int}{D k:Nat}(h:Rep z A B D)(hA:bl A.natAbs<=k)(hB:bl B.natAbs<=k)(hD:bl D<=k):z.sz<=k:=by
 obtain⟨e1,e2,e3⟩:=h.eqs
 unfold Cq.sz
 rw[e1,e2,e3,natAbs_div (gcd3_dvd1 A B D),natAbs_div (gcd3_dvd2 A B D)]
 have a:=bl_mono (Nat.div_le_self A.natAbs (gcd3 A B D))
 have b:=bl_mono (Nat.div_le_self B.natAbs (gcd3 A B D))
 have c:=bl_mono (Nat.div_le_self D (gcd3 A B D))
 omega
theorem Cq.szA(z:Cq):bl z.A.natAbs<=z.sz:=Nat.le_max_left _ _
theorem Cq.szB(z:Cq):bl z.B.natAbs<=z.sz:=by unfold Cq.sz; omega
theorem Cq.szD(z:Cq):bl z.D<=z.sz:=by unfold Cq.sz; omega
theorem Rep.add{z w:Cq}{A B A' B':Int}{D D':Nat}(h:Rep z A B D)(h':Rep w A' B' D'):Rep (z+w) (A*D'+A'*D) (B*D'+B'*D) (D*D'):=by
 have n1:=natCast_ne h.pos
 have n2:=natCast_ne h'.pos
 refine⟨Nat.mul_ne_zero h.pos h'.pos,?_,?_⟩
 . rw[Cq.add_re,h.re,h'.re]; push_cast; grind
 . rw[Cq.add_im,h.im,h'.im]; push_cast; grind
theorem Rep.neg{z:Cq}{A B:Int}{D:Nat}(h:Rep z A B D):Rep (-z) (-A) (-B) D:=by
 refine⟨h.pos,?_,?_⟩
 . rw[Cq.neg_re,h.re]; push_cast; grind
 . rw[Cq.neg_im,h.im]; push_cast; grind
theorem Rep.conj{z:Cq}{A B:Int}{D:Nat}(h:Rep z A B D):Rep z.conj A (-B) D:=by
 refine⟨h.pos,h.re,?_⟩
 rw[Cq.conj_im,h.im]; push_cast; grind
theorem Rep.mul{z w:Cq}{A B A' B':Int}{D D':Nat}(h:Rep z A B D)(h':Rep w A' B' D'):Rep (z*w) (A*A'-B*B') (A*B'+B*A') (D*D'):=by
 have n1:=natCast_ne h.pos
 have n2:=natCast_ne h'.pos
 refine⟨Nat.mul_ne_zero h.pos h'.pos,?_,?_⟩
 . rw[Cq.mul_re,h.re,h'.re,h.im,h'.im]; push_cast; grind
 . rw[Cq.mul_im,h.re,h'.re,h.im,h'.im]; push_cast; grind
def IntAt(V:View)(x:WhV)(n:Int):Prop:=x.neg=decide (n<0)/\NatAt V x.mag n.natAbs
theorem IntAt.le{V V':View}{x:WhV}{n:Int}(hle:V.le V')(h:IntAt V x n):IntAt V' x n:=⟨h.1,h.2.le hle⟩
theorem IntAt.zero(V:View):IntAt V (WhV.mk false (Sl.mk none 0 0)) 0:=⟨by simp,NatAt.zero V⟩
theorem IntAt.val{V:View}{x:WhV}{n:Int}(h:IntAt V x n):n=if x.neg=true then -(n.natAbs:Int)else(n.natAbs:Int):=by
 rw[h.1]; simp only[decide_eq_true_eq]; split<;>omega
structure NumAt (V:View) (x:NumV) (z:Cq):Prop where
 re:IntAt V x.re z.A
 im:IntAt V x.im z.B
 under:NatAt V x.under (if z.D=1 then 0 else z.D)
theorem NumAt.le{V V':View}{x:NumV}{z:Cq}(hle:V.le V')(h:NumAt V x z):NumAt V' x z:=⟨h.re.le hle,h.im.le hle,h.under.le hle⟩
theorem NatAt.len_zero{V:View}{s:Sl}{n:Nat}(h:NatAt V s n):s.len=0↔n=0:=by
 rw[<-wn_eq_zero (n:=n),wn,<-h.len]
theorem Rep.ofInt(n:Int):Rep ⟨(n:Rat),0⟩ n 0 1:=by
 refine⟨by omega,?_,?_⟩
 . rw[Rat.div_def]; simp; grind
 . rw[Rat.div_def]; simp
theorem Cq.ofInt_eqs(n:Int):(Cq.mk (n:Rat) 0).A=n/\(Cq.mk (n:Rat) 0).B=0/\(Cq.mk (n:Rat) 0).D=1 :=
 Canon.eqs ⟨Rep.ofInt n,by simp⟩
theorem Cq.zero_eqs:Cq.zero.A=0/\Cq.zero.B=0/\Cq.zero.D=1:=by
 have:=Cq.ofInt_eqs 0
 simp only[Rat.intCast_zero]at this
 exact this
theorem NumAt.zero(V:View):NumAt V (NumV.mk (WhV.mk false (Sl.mk none 0 0)) (WhV.mk false (Sl.mk none 0 0)) (Sl.mk none 0 0)) Cq.zero:=by
 obtain⟨h1,h2,h3⟩:=Cq.zero_eqs
 refine⟨by rw[h1]; exact IntAt.zero V,by rw[h2]; exact IntAt.zero V,by rw[h3]; exact NatAt.zero V⟩
theorem bl_one:bl 1=1:=by decide
theorem Cq.sz_zero:Cq.zero.sz<=1:=by
 obtain⟨h1,h2,h3⟩:=Cq.zero_eqs
 unfold Cq.sz; rw[h1,h2,h3]; simp[bl_zero,bl_one]
theorem Cq.sz_add(z w:Cq):(z+w).sz<=z.sz+w.sz+1:=by
 have a1:=z.szA; have a2:=z.szB; have a3:=z.szD
 have b1:=w.szA; have b2:=w.szB; have b3:=w.szD
 refine(z.canon.rep.add w.canon.rep).sz ?_ ?_ ?_
 . refine bl_addi (Nat.le_trans (bl_muli _ _) ?_) (Nat.le_trans (bl_muli _ _) ?_)<;>simp only[Int.natAbs_natCast]<;>omega
 . refine bl_addi (Nat.le_trans (bl_muli _ _) ?_) (Nat.le_trans (bl_muli _ _) ?_)<;>simp only[Int.natAbs_natCast]<;>omega
 . exact Nat.le_trans (bl_mul _ _) (by omega)
theorem Cq.sz_mul(z w:Cq):(z*w).sz<=z.sz+w.sz+1:=by
 have a1:=z.szA; have a2:=z.szB; have a3:=z.szD
 have b1:=w.szA; have b2:=w.szB; have b3:=w.szD
 refine(z.canon.rep.mul w.canon.rep).sz ?_ ?_ ?_
 . exact bl_subi (Nat.le_trans (bl_muli _ _) (by omega)) (Nat.le_trans (bl_muli _ _) (by omega))
 . exact bl_addi (Nat.le_trans (bl_muli _ _) (by omega)) (Nat.le_trans (bl_muli _ _) (by omega))
 . exact Nat.le_trans (bl_mul _ _) (by omega)
theorem Cq.neg_eqs(z:Cq):(-z).A = -z.A/\(-z).B = -z.B/\(-z).D=z.D :=
 Canon.eqs ⟨z.canon.rep.neg,by rw[Int.natAbs_neg,Int.natAbs_neg]; exact z.canon.cop⟩
theorem Cq.conj_eqs(z:Cq):z.conj.A=z.A/\z.conj.B = -z.B/\z.conj.D=z.D :=
 Canon.eqs ⟨z.canon.rep.conj,by rw[Int.natAbs_neg]; exact z.canon.cop⟩
theorem Cq.sz_neg(z:Cq):(-z).sz=z.sz:=by
 obtain⟨h1,h2,h3⟩:=z.neg_eqs
 unfold Cq.sz; rw[h1,h2,h3,Int.natAbs_neg,Int.natAbs_neg]
theorem Cq.sz_conj(z:Cq):z.conj.sz=z.sz:=by
 obtain⟨h1,h2,h3⟩:=z.conj_eqs
 unfold Cq.sz; rw[h1,h2,h3,Int.natAbs_neg]
theorem Cq.sub_eq(z w:Cq):z-w=z + -w:=Cq.ext' (by rw[Cq.sub_re,Cq.add_re,Cq.neg_re]; grind) (by rw[Cq.sub_im,Cq.add_im,Cq.neg_im]; grind)
theorem Cq.sz_sub(z w:Cq):(z-w).sz<=z.sz+w.sz+1:=by
 rw[Cq.sub_eq,<-Cq.sz_neg w]; exact Cq.sz_add z (-w)
theorem Cq.B_zero{z:Cq}:z.B=0↔z.im=0:=by
 have h:=z.canon.rep
 rw[h.im]
 constructor
 . intro e; rw[e]; simp[Rat.div_def]
 . intro e
   have hD:=natCast_ne h.pos
   have:((z.B:Int):Rat)=0:=by
    have h2:=congrArg (·*(z.D:Rat)) e
    simp only[Rat.div_mul_cancel hD,Rat.zero_mul]at h2
    exact h2
   simpa using this
def cmpZ(x y:Int):Int:=if x<y then -1 else if x=y then 0 else 1
theorem cmpZ_lt{x y:Int}(h:x<y):cmpZ x y = -1:=by unfold cmpZ; rw[if_pos h]
theorem cmpZ_eq{x y:Int}(h:x=y):cmpZ x y=0:=by unfold cmpZ; rw[if_neg (by omega),if_pos h]
theorem cmpZ_gt{x y:Int}(h:y<x):cmpZ x y=1:=by unfold cmpZ; rw[if_neg (by omega),if_neg (by omega)]
theorem cmpZ_zero{x y:Int}:cmpZ x y=0↔x=y:=by
 unfold cmpZ; split
 . omega
 . split<;>omega
theorem addr_add2(a:Addr)(m n:Nat):(a.add m).add n=a.add (m+n):=by
 by_cases h1:m=0<;>by_cases h2:n=0<;>simp[Addr.add,h1,h2,Nat.add_assoc]
theorem load_block{V:View}{b j:Nat}{cs:Array Value}(h:V b=some cs):V.load ((some (Addr.mk b 0 none)).map (·.add j))=cs[j]?:=by
 by_cases h1:j=0<;>simp[View.load,Addr.add,h1,h]
def Cells{α:Type}(sz:Nat)(P:View->List Value->α->Prop)(V:View):List Value->List α->Prop
 | o,[]=>o=[]
 | o,z::zs=>∃x o',o=x++o'/\x.length=sz/\P V x z/\Cells sz P V o' zs
section
variable {α:Type} {sz:Nat} {P:View->List Value->α->Prop} {V V':View}
theorem Cells.length:∀ {zs:List α} {o:List Value},Cells sz P V o zs->o.length=zs.length*sz
 | [],_,h=>by rw[show _=[]from h]; simp
 | z::zs,_,⟨x,o',e,hx,_,h⟩=>by rw[e,List.length_append,hx,h.length,List.length_cons,Nat.add_mul]; omega
theorem Cells.imp{P':View->List Value->α->Prop}(hP:∀x z,P V x z->P' V' x z):∀ {zs:List α} {o:List Value},Cells sz P V o zs->Cells sz P' V' o zs
 | [],_,h=>h
 | _::_,_,⟨x,o',e,hx,p,h⟩=>⟨x,o',e,hx,hP _ _ p,h.imp hP⟩
theorem Cells.append:∀ {zs zs':List α} {o o':List Value},Cells sz P V o zs->Cells sz P V o' zs'->Cells sz P V (o++o') (zs++zs')
 | [],_,_,_,h,h'=>by rw[show _=[]from h]; exact h'
 | _::_,_,_,_,⟨x,o1,e,hx,p,h⟩,h'=>⟨x,o1++_,by rw[e,List.append_assoc],hx,p,h.append h'⟩
theorem Cells.one{x:List Value}{z:α}(hx:x.length=sz)(p:P V x z):Cells sz P V x [z]:=⟨x,[],by simp,hx,p,rfl⟩
theorem Cells.replicate{x:List Value}{z:α}(hx:x.length=sz)(p:P V x z):∀n,Cells sz P V (List.replicate n x).flatten (List.replicate n z)
 | 0=>rfl
 | n+1=>⟨x,(List.replicate n x).flatten,by simp[List.replicate_succ],hx,p,Cells.replicate hx p n⟩
theorem Cells.get:∀ {zs:List α} {o:List Value},Cells sz P V o zs->∀ {i:Nat} {z:α},zs[i]?=some z ->
 ∃x,P V x z/\x.length=sz/\∀j v,x[j]?=some v->o[i*sz+j]?=some v
 | [],_,_,i,z,hi=>by simp at hi
 | z0::zs,_,⟨x,o',e,hx,p,h⟩,0,z,hi=>by
   simp at hi; subst hi
   refine⟨x,p,hx,λj v hj => ?_⟩
   have:j<x.length:=by
    rcases Nat.lt_or_ge j x.length with h|h
    . exact h
    . rw[List.getElem?_eq_none h]at hj; simp at hj
   rw[e,Nat.zero_mul,Nat.zero_add,List.getElem?_append_left this]; exact hj
 | z0::zs,_,⟨x,o',e,hx,p,h⟩,i+1,z,hi=>by
   simp at hi
   obtain⟨y,q,hy,hg⟩:=h.get hi
   refine⟨y,q,hy,λj v hj => ?_⟩
   rw[e,List.getElem?_append_right (by rw[hx,Nat.add_mul]; omega)]
   have:(i+1)*sz+j-x.length=i*sz+j:=by rw[hx,Nat.add_mul]; omega
   rw[this]; exact hg j v hj
theorem setL_mid{β:Type}:∀(vs a:List β) (b c:List β),b.length=vs.length->setL (a++b++c) a.length vs=a++vs++c
 | [], a, b, c, h => by have : b = [] := by simpa using h
                        subst this; simp[setL]
 | v::vs,a,[],c,h=>by simp at h
 | v::vs,a,b0::b,c,h=>by
   have h':b.length=vs.length:=by simpa using h
   unfold setL
   have e:(a++b0::b++c).set a.length v=(a++[v])++b++c:=by
    rw[List.append_assoc,List.set_append_right _ _ (Nat.le_refl _)]; simp
   rw[e]
   have e2:a.length+1=(a++[v]).length:=by simp
   rw[e2,setL_mid vs (a++[v]) b c h']; simp
theorem Cells.set:∀ {zs:List α} {o:List Value},Cells sz P V o zs->∀ {i:Nat} {y:List Value} {z:α},i<zs.length->y.length=sz->P V y z ->
 ∀pre:List Value,∃o',setL (pre++o) (pre.length+i*sz) y=pre++o'/\Cells sz P V o' (zs.set i z)
 | [],_,_,i,_,_,hi,_,_,_=>by simp at hi
 | z0::zs,_,⟨x,o',e,hx,p,h⟩,0,y,z,hi,hy,q,pre=>by
   refine⟨y++o',?_,y,o',rfl,hy,q,h⟩
   rw[e,Nat.zero_mul,Nat.add_zero,<-List.append_assoc,setL_mid y pre x o' (by rw[hx,hy])]; simp
 | z0::zs,_,⟨x,o',e,hx,p,h⟩,i+1,y,z,hi,hy,q,pre=>by
   obtain⟨o2,e2,h2⟩:=h.set (i:=i) (by simpa using hi) hy q (pre++x)
   refine⟨x++o2,?_,x,o2,rfl,hx,p,h2⟩
   have e3:(pre++x).length+i*sz=pre.length+(i+1)*sz:=by rw[List.length_append,hx,Nat.add_mul]; omega
   rw[e,<-e3,<-List.append_assoc,e2,List.append_assoc]
theorem Cells.set0{zs:List α}{o:List Value}(h:Cells sz P V o zs){i:Nat}{y:List Value}{z:α}(hi:i<zs.length)(hy:y.length=sz)(q:P V y z) :
 Cells sz P V (setL o (0+i*sz) y) (zs.set i z):=by
 obtain⟨o',e,h'⟩:=h.set hi hy q []
 simp only[List.nil_append,List.length_nil]at e
 rw[e]; exact h'
theorem Cells.room{zs:List α}{o:List Value}(h:Cells sz P V o zs){i:Nat}(hi:i<zs.length):0+i*sz+sz<=o.length:=by
 rw[h.length]
 have:(i+1)*sz<=zs.length*sz:=Nat.mul_le_mul_right _ hi
 rw[Nat.add_mul]at this; omega
structure ListAt (sz:Nat) (P:View->List Value->α->Prop) (V:View) (s:Sl) (zs:List α):Prop where
 len:s.len=zs.length
 cap:s.len<=s.cap
 some:zs≠[]->s.a.isSome=true
 cells:∃o,V.has s.a o/\Cells sz P V o zs
theorem ListAt.le(hP:∀x z,P V x z->P V' x z)(hle:V.le V'){s:Sl}{zs:List α}(h:ListAt sz P V s zs):ListAt sz P V' s zs:=by
 obtain⟨o,h1,h2⟩:=h.cells
 exact⟨h.len,h.cap,h.some,o,View.has_le hle h1,h2.imp hP⟩
theorem ListAt.nil:ListAt sz P V (Sl.mk none 0 0) ([]:List α):=⟨rfl,Nat.le_refl _,by simp,[],by intro j v h; simp at h,rfl⟩
theorem ListAt.get{s:Sl}{zs:List α}(h:ListAt sz P V s zs){t:Int}(h0:0<=t){z:α}(hz:zs[t.toNat]? = .some z) :
 ((0:Int)<=t/\t<(s.len:Nat)/\Option.isSome s.a=true) /\
 ∃x,P V x z/\x.length=sz/\V.has (Option.map (λq=>Addr.add q (Int.toNat t*sz)) s.a) x/\Option.isSome (Option.map (λq=>Addr.add q (Int.toNat t*sz)) s.a)=true:=by
 obtain⟨o,h1,h2⟩:=h.cells
 obtain⟨x,p,hx,hg⟩:=h2.get hz
 have hlt:t.toNat<zs.length:=by
  rcases Nat.lt_or_ge t.toNat zs.length with h|h
  . exact h
  . rw[List.getElem?_eq_none h]at hz; simp at hz
 have hne:zs≠[]:=by intro e; rw[e]at hlt; simp at hlt
 have hs:=h.some hne
 have hl:=h.len
 refine⟨⟨h0,by omega,hs⟩,x,p,hx,λj v hj => ?_,by simpa using hs⟩
 have:=h1 _ v (hg j v hj)
 rw[Option.map_map]
 have e:((λx:Addr=>x.add j)∘λq:Addr=>q.add (t.toNat*sz))=λq:Addr=>q.add (t.toNat*sz+j):=by
  funext a; exact addr_add2 a _ _
 rw[e]; exact this
theorem ListAt.of_block{b c:Nat}{o o':List Value}{zs:List α}(hb:o++o'≠[]->V b = .some (o++o').toArray)(h:Cells sz P V o zs){n:Nat}(hn:n=zs.length)(hc:n<=c){a:Option Addr}
 (ha:c≠0->a = .some ⟨b,0,none⟩):ListAt sz P V ⟨a,n,c⟩ zs:=by
 refine⟨hn,hc,λhne => ?_,o,λj v hj => ?_,h⟩
 . have:zs.length≠0:=by simpa using hne
   rw[ha (by omega)]; rfl
 . have hj':j<o.length:=by
     rcases Nat.lt_or_ge j o.length with h|h
     . exact h
     . rw[List.getElem?_eq_none h]at hj; simp at hj
   have hl:=h.length
   have hz:zs.length≠0:=by intro e; rw[e]at hl; omega
   have hne:o++o'≠[]:=by intro e; have:=congrArg List.length e; simp at this; simp[this]at hj'
   show V.load (a.map (·.add j)) = .some v
   rw[ha (by omega)]
   rw[load_block (hb hne),List.getElem?_toArray,List.getElem?_append_left hj']; exact hj
theorem LstOk.split{n cap:Nat}{o l:List Value}(h:LstOk sz n cap o l):∃o',o=l++o':=⟨o.drop (n*sz),by rw[<-h.take,List.take_append_drop]⟩
theorem LstOk.nil:LstOk sz 0 0 [] []:=⟨Nat.le_refl _,by simp,by simp⟩
theorem ListAt.of_lst{b n cap:Nat}{o l:List Value}{zs:List α}(hl:LstOk sz n cap o l)(hb:o≠[]->V b = .some o.toArray)(h:Cells sz P V l zs)(hn:n=zs.length) :
 ListAt sz P V ⟨lstA b cap,n,cap⟩ zs:=by
 obtain⟨o',e⟩:=hl.split
 refine ListAt.of_block (o:=l) (o':=o') (b:=b) (λhne => ?_) h hn hl.le (λhc=>by simp[lstA,hc])
 rw[<-e]; exact hb (by rw[e]; exact hne)
theorem ListAt.of_made{b n:Nat}{o:List Value}{zs:List α}(hb:V b = .some o.toArray)(h:Cells sz P V o zs)(hn:n=zs.length):ListAt sz P V ⟨.some ⟨b,0,none⟩,n,n⟩ zs :=
 ListAt.of_block (o:=o) (o':=[]) (b:=b) (λ_=>by simpa using hb) h hn (Nat.le_refl _) (λ_=>rfl)
end
def numC(V:View)(x:List Value)(z:Cq):Prop:=∃n:NumV,x=n.val.cells.toList/\NumAt V n z
theorem numC.le{V V':View}(hle:V.le V')(x:List Value)(z:Cq)(h:numC V x z):numC V' x z:=by
 obtain⟨n,e,hn⟩:=h; exact⟨n,e,hn.le hle⟩
def NumsAt(V:View)(s:Sl)(zs:List Cq):Prop:=ListAt 5 numC V s zs
def NumsIn(V:View)(o:List Value)(zs:List Cq):Prop:=Cells 5 numC V o zs
theorem NumsAt.le{V V':View}(hle:V.le V'){s:Sl}{zs:List Cq}(h:NumsAt V s zs):NumsAt V' s zs:=ListAt.le (numC.le hle) hle h
theorem NumsIn.le{V V':View}(hle:V.le V'){o:List Value}{zs:List Cq}(h:NumsIn V o zs):NumsIn V' o zs:=Cells.imp (numC.le hle) h
def nth(zs:List Cq)(i:Nat):Cq:=zs.getD i Cq.zero
theorem nth_get{zs:List Cq}{i:Nat}(h:i<zs.length):zs[i]?=some (nth zs i):=by simp[nth,List.getD,h]
theorem NumsAt.get{V:View}{s:Sl}{zs:List Cq}(h:NumsAt V s zs){t:Int}(h0:0<=t)(h1:t.toNat<zs.length) :
 ((0:Int)<=t/\t<(s.len:Nat)/\Option.isSome s.a=true) /\
 ∃x:NumV,V.has (Option.map (λq=>Addr.add q (Int.toNat t*5)) s.a) x.val.cells.toList/\Option.isSome (Option.map (λq=>Addr.add q (Int.toNat t*5)) s.a)=true/\NumAt V x (nth zs t.toNat):=by
 obtain⟨hb,x,⟨n,e,hn⟩,_,h1,h2⟩:=ListAt.get h h0 (nth_get h1)
 exact⟨hb,n,e▸h1,h2,hn⟩
theorem NumsIn.zeros(V:View)(n:Nat):NumsIn V ((List.replicate n [Value.bool false,Value.slice none 0 0,Value.bool false,Value.slice none 0 0,Value.slice none 0 0]).flatten) (List.replicate n Cq.zero) :=
 Cells.replicate (x:=[Value.bool false,Value.slice none 0 0,Value.bool false,Value.slice none 0 0,Value.slice none 0 0]) rfl ⟨_,rfl,NumAt.zero V⟩ n
theorem NumsIn.set{V:View}{o:List Value}{zs:List Cq}(h:NumsIn V o zs){i:Nat}(hi:i<zs.length){r:NumV}{z:Cq}(hr:NumAt V r z) :
 NumsIn V (setL o (0+i*5) [.bool r.re.neg,r.re.mag.v,.bool r.im.neg,r.im.mag.v,r.under.v]) (zs.set i z):=Cells.set0 h hi rfl ⟨r,rfl,hr⟩
theorem NumsIn.push{V:View}{o:List Value}{zs:List Cq}(h:NumsIn V o zs){r:NumV}{z:Cq}(hr:NumAt V r z) :
 NumsIn V (o++[.bool r.re.neg,r.re.mag.v,.bool r.im.neg,r.im.mag.v,r.under.v]) (zs++[z]):=Cells.append h (Cells.one rfl ⟨r,rfl,hr⟩)
def filled(n k:Nat)(f:Nat->Cq):List Cq:=(List.range k).map f++List.replicate (n-k) Cq.zero
theorem filled_zero(n:Nat)(f:Nat->Cq):filled n 0 f=List.replicate n Cq.zero:=by simp[filled]
theorem filled_all(n:Nat)(f:Nat->Cq):filled n n f=(List.range n).map f:=by simp[filled]
theorem filled_length{n k:Nat}(h:k<=n)(f:Nat->Cq):(filled n k f).length=n:=by simp[filled]; omega
theorem filled_set{n k:Nat}(h:k<n)(f:Nat->Cq):(filled n k f).set k (f k)=filled n (k+1) f:=by
 unfold filled
 rw[List.set_append_right _ _ (by simp)]
 simp only[List.length_map,List.length_range,Nat.sub_self]
 have:n-k=(n-(k+1))+1:=by omega
 rw[this,List.replicate_succ,List.set_cons_zero,List.range_succ,List.map_append]; simp
theorem nth_map{n i:Nat}(h:i<n)(f:Nat->Cq):nth ((List.range n).map f) i=f i:=by simp[nth,List.getD,h]
theorem push_range(k:Nat)(f:Nat->Cq):(List.range k).map f++[f k]=(List.range (k+1)).map f:=by rw[List.range_succ,List.map_append]; rfl
theorem list_of_nth(zs:List Cq):(List.range zs.length).map (nth zs)=zs:=by
 apply List.ext_getElem (by simp)
 intro i h1 h2
 simp[nth,List.getD,h2]
theorem CallO.nums{P:Program}{f:FuncId}{args:Array Value}{ty:TypeId}{V:View}{zs:List Cq}(hz:zs≠[])
 (h:CallO P f args ty V λn cap l rest V'=>n=zs.length/\cap=n/\rest=[]/\NumsIn V' l zs) :
 CallV P f args V λv V'=>∃r:Sl,v=r.v/\NumsAt V' r zs:=by
 refine h.known.mono λv V' _ ⟨b,n,cap,l,rest,V1,hv,l1,hb,hn,hc,hr,hl⟩ => ?_
 subst hc; subst hr
 have hl0:l≠[]:=by
  intro e; subst e
  have h1:=Cells.length hl
  have:zs.length≠0:=by simpa using hz
  simp at h1; omega
 refine⟨⟨lstA b cap,cap,cap⟩,hv,ListAt.of_block (o:=l) (o':=[]) (b:=b) (λ_=>by simpa using hb hl0) (hl.le l1) hn (Nat.le_refl _) (λhc=>by simp[lstA,hc])⟩
def everyF(zs:List Cq)(a:Nat):List Cq:=(List.range ((zs.length+1-a) / 2)).map λk=>nth zs (a+2*k)
theorem everyF_length(zs:List Cq)(a:Nat):(everyF zs a).length=(zs.length+1-a) / 2:=by simp[everyF]
theorem everyF_nth{zs:List Cq}{a k:Nat}(h:k<(zs.length+1-a) / 2):nth (everyF zs a) k=nth zs (a+2*k):=nth_map h _
def stageF:Nat->List Cq->List Cq->List Cq
 | 0,zs,_=>[nth zs 0]
 | m + 1, zs, ws => (List.range (2 ^ (m + 1))).map fun i =>
     if i<2^m then nth (stageF m (everyF zs 0) (everyF ws 0)) i+nth (stageF m (everyF zs 1) (everyF ws 0)) i*nth ws i
     else nth (stageF m (everyF zs 0) (everyF ws 0)) (i-2^m)-nth (stageF m (everyF zs 1) (everyF ws 0)) (i-2^m)*nth ws (i-2^m)
theorem stageF_length(m:Nat)(zs ws:List Cq):(stageF m zs ws).length=2^m:=by cases m<;>simp[stageF]
theorem stageF_sz:∀(m:Nat) (zs ws:List Cq) (S T:Nat),zs.length=2^m->ws.length=2^m->(∀i,i<2^m->(nth zs i).sz<=S)->(∀i,i<2^m->(nth ws i).sz<=T) ->
 ∀i,i<2^m->(nth (stageF m zs ws) i).sz+(T+2)<=2^m*(S+T+2)
 | 0,zs,ws,S,T,_,_,hS,_,i,hi=>by
   have h0:i=0:=by simpa using hi
   subst h0
   have h2:=hS 0 (by simp)
   have e:nth (stageF 0 zs ws) 0=nth zs 0:=rfl
   rw[e]; omega
 | m+1,zs,ws,S,T,hz,hw,hS,hT,i,hi=>by
   have hp:2^(m+1)=2*2^m:=by rw[Nat.pow_succ]; omega
   have key:∀a,a<=1->∀k,k<2^m->(nth (stageF m (everyF zs a) (everyF ws 0)) k).sz+(T+2)<=2^m*(S+T+2):=by
    intro a ha
    refine stageF_sz m _ _ S T (by rw[everyF_length]; omega) (by rw[everyF_length]; omega) ?_ ?_
    . intro k hk
      rw[everyF_nth (by omega)]
      exact hS _ (by omega)
    . intro k hk
      rw[everyF_nth (by omega)]
      exact hT _ (by omega)
   have e:2^(m+1)*(S+T+2)=2*(2^m*(S+T+2)):=by rw[hp,Nat.mul_assoc]
   unfold stageF
   rw[nth_map hi,e]
   split
   . have h1:=key 0 (by omega) i (by assumption)
     have h2:=key 1 (by omega) i (by assumption)
     have h3:=hT i hi
     have h4:=Cq.sz_mul (nth (stageF m (everyF zs 1) (everyF ws 0)) i) (nth ws i)
     have h5:=Cq.sz_add (nth (stageF m (everyF zs 0) (everyF ws 0)) i) (nth (stageF m (everyF zs 1) (everyF ws 0)) i*nth ws i)
     omega
   . have h1:=key 0 (by omega) (i-2^m) (by omega)
     have h2:=key 1 (by omega) (i-2^m) (by omega)
     have h3:=hT (i-2^m) (by omega)
     have h4:=Cq.sz_mul (nth (stageF m (everyF zs 1) (everyF ws 0)) (i-2^m)) (nth ws (i-2^m))
     have h5:=Cq.sz_sub (nth (stageF m (everyF zs 0) (everyF ws 0)) (i-2^m)) (nth (stageF m (everyF zs 1) (everyF ws 0)) (i-2^m)*nth ws (i-2^m))
     omega
def halves(h k:Nat)(a b:Nat->Cq):List Cq:=(List.range (2*h)).map λi=>if i<h then(if i<k then a i else Cq.zero)else(if i-h<k then b (i-h)else Cq.zero)
theorem halves_zero(h:Nat)(a b:Nat->Cq):halves h 0 a b=List.replicate (2*h) Cq.zero:=by
 apply List.ext_getElem (by simp[halves])
 intro i h1 h2
 simp[halves]
theorem halves_set{h k:Nat}(hk:k<h)(a b:Nat->Cq):((halves h k a b).set k (a k)).set (k+h) (b k)=halves h (k+1) a b:=by
 apply List.ext_getElem (by simp[halves])
 intro i h1 h2
 simp only[halves,List.getElem_set,List.getElem_map,List.getElem_range]
 by_cases e1:k+h=i
 . subst e1
   have:¬k+h<h:=by omega
   simp[this]
 . by_cases e2:k=i
   . subst e2
     have e4:h≠0:=by omega
     simp[e4,hk]
   . simp only[e1,e2,if_false]
     by_cases e3:i<h
     . have:(i<k+1)↔i<k:=by omega
       simp[e3,this]
     . have:(i-h<k+1)↔i-h<k:=by omega
       simp[e3,this]
theorem CallO.nums1{P:Program}{f:FuncId}{args:Array Value}{ty:TypeId}{V:View}{zs:List Cq}{e:Value}(hz:zs≠[])
 (h:CallO P f args ty V λn cap l rest V'=>n=zs.length/\cap=n/\rest=[e]/\NumsIn V' l zs) :
 CallV P f args V λv V'=>∃r:Sl,v = .tuple #[r.v,e]/\NumsAt V' r zs:=by
 refine h.known.mono λv V' _ ⟨b,n,cap,l,rest,V1,hv,l1,hb,hn,hc,hr,hl⟩ => ?_
 subst hc; subst hr
 have hl0:l≠[]:=by
  intro e; subst e
  have h1:=Cells.length hl
  have:zs.length≠0:=by simpa using hz
  simp at h1; omega
 refine⟨⟨lstA b cap,cap,cap⟩,hv,ListAt.of_block (o:=l) (o':=[]) (b:=b) (λ_=>by simpa using hb hl0) (hl.le l1) hn (Nat.le_refl _) (λhc=>by simp[lstA,hc])⟩
def fsum(zs ws:List Cq)(k:Nat):Nat->Cq
 | 0=>nth zs 0*nth ws 0
 | j+1=>fsum zs ws k j+nth zs (j+1)*nth ws ((j+1)*k%zs.length)
def fwdF(zs ws:List Cq):List Cq:=(List.range zs.length).map λk=>fsum zs ws k (zs.length-1)
theorem fwdF_length(zs ws:List Cq):(fwdF zs ws).length=zs.length:=by simp[fwdF]
theorem fsum_sz(zs ws:List Cq)(k S T:Nat)(hl:ws.length=zs.length)(hS:∀i,i<zs.length->(nth zs i).sz<=S)(hT:∀i,i<zs.length->(nth ws i).sz<=T) :
 ∀j,j<zs.length->(fsum zs ws k j).sz<=(j+1)*(S+T+2)
 | 0,h=>by
   have h1:=hS 0 h
   have h2:=hT 0 h
   have:=Cq.sz_mul (nth zs 0) (nth ws 0)
   simp only[fsum]; omega
 | j+1,h=>by
   have ih:=fsum_sz zs ws k S T hl hS hT j (by omega)
   have h1:=hS (j+1) h
   have h2:=hT ((j+1)*k%zs.length) (Nat.mod_lt _ (by omega))
   have h3:=Cq.sz_mul (nth zs (j+1)) (nth ws ((j+1)*k%zs.length))
   have h4:=Cq.sz_add (fsum zs ws k j) (nth zs (j+1)*nth ws ((j+1)*k%zs.length))
   rw[Nat.add_mul (j+1) 1]
   simp only[fsum]; omega
theorem fwdF_sz(zs ws:List Cq)(S T:Nat)(hl:ws.length=zs.length)(hS:∀i,i<zs.length->(nth zs i).sz<=S)(hT:∀i,i<zs.length->(nth ws i).sz<=T) :
 ∀i,i<zs.length->(nth (fwdF zs ws) i).sz<=zs.length*(S+T+2):=by
 intro i hi
 unfold fwdF
 rw[nth_map hi]
 have:=fsum_sz zs ws i S T hl hS hT (zs.length-1) (by omega)
 rw[Nat.sub_add_cancel (by omega)]at this
 exact this
def one4:List Cq:=[⟨1,0⟩,⟨0,-1⟩,⟨-1,0⟩,⟨0,1⟩]
def one2:List Cq:=[⟨1,0⟩,⟨-1,0⟩]
def one1:List Cq:=[⟨1,0⟩]
theorem fwd4(a b c d w0 w1 w2 w3:Cq):fwdF [a,b,c,d] [w0,w1,w2,w3] =
 [a*w0+b*w0+c*w0+d*w0,a*w0+b*w1+c*w2+d*w3,a*w0+b*w2+c*w0+d*w2,a*w0+b*w3+c*w2+d*w1]:=by simp[fwdF,fsum,nth,List.range_succ]
theorem fwd2(a b w0 w1:Cq):fwdF [a,b] [w0,w1]=[a*w0+b*w0,a*w0+b*w1]:=rfl
theorem fwd1(a w0:Cq):fwdF [a] [w0]=[a*w0]:=rfl
theorem list4{a b c d a' b' c' d':Cq}(h1:a=a')(h2:b=b')(h3:c=c')(h4:d=d'):[a,b,c,d]=[a',b',c',d']:=by rw[h1,h2,h3,h4]
theorem list2{a b a' b':Cq}(h1:a=a')(h2:b=b'):[a,b]=[a',b']:=by rw[h1,h2]
theorem list1{a a':Cq}(h1:a=a'):[a]=[a']:=by rw[h1]
theorem four_of{zs:List Cq}(h:zs.length=4):∃a b c d,zs=[a,b,c,d]:=by
 match zs,h with
 | [a,b,c,d],_=>exact⟨a,b,c,d,rfl⟩
theorem two_of{zs:List Cq}(h:zs.length=2):∃a b,zs=[a,b]:=by
 match zs,h with
 | [a,b],_=>exact⟨a,b,rfl⟩
theorem one_of{zs:List Cq}(h:zs.length=1):∃a,zs=[a]:=by
 match zs,h with
 | [a],_=>exact⟨a,rfl⟩
def onesF(m:Nat):List Cq:=if m=0 then one1 else if m=1 then one2 else one4
def plusF(a b:List Cq):List Cq:=(List.range a.length).map λi=>nth a i+nth b (i%b.length)
theorem plusF_length(a b:List Cq):(plusF a b).length=a.length:=by simp[plusF]
def optC(P:View->List Value->Cq->Prop)(V:View)(x:List Value)(o:Option Cq):Prop:=∀z,o=some z->P V x z
def OptIn(P:View->List Value->Cq->Prop)(V:View)(o:List Value)(n:Nat)(f:Nat->Option Cq):Prop:=Cells 5 (optC P) V o ((List.range n).map f)
section
variable {P:View->List Value->Cq->Prop} {V V':View} {o:List Value} {n:Nat} {f g:Nat->Option Cq}
theorem OptIn.le(hP:∀x z,P V x z->P V' x z)(h:OptIn P V o n f):OptIn P V' o n f:=Cells.imp (P:=optC P) (V:=V) (P':=optC P) (V':=V') (λx _ hx z e=>hP x z (hx z e)) h
theorem OptIn.room(h:OptIn P V o n f){i:Nat}(hi:i<n):0+i*5+5<=o.length:=Cells.room h (by simpa using hi)
theorem OptIn.congr(h:OptIn P V o n f)(e:∀p,p<n->f p=g p):OptIn P V o n g:=by
 unfold OptIn
 have:(List.range n).map g=(List.range n).map f:=List.map_congr_left λp hp=>(e p (by simpa using hp)).symm
 rw[this]; exact h
theorem OptIn.zeros(P:View->List Value->Cq->Prop)(V:View)(n:Nat):OptIn P V ((List.replicate n [Value.bool false,Value.slice none 0 0,Value.bool false,Value.slice none 0 0,Value.slice none 0 0]).flatten) n (λ_=>none):=by
 unfold OptIn
 have e:(List.range n).map (λ_=>(none:Option Cq))=List.replicate n none:=by
  apply List.ext_getElem (by simp)
  intro i h1 h2; simp
 rw[e]
 exact Cells.replicate (x:=[Value.bool false,Value.slice none 0 0,Value.bool false,Value.slice none 0 0,Value.slice none 0 0]) rfl (by intro z hz; simp at hz) n
theorem OptIn.set(h:OptIn P V o n f){i:Nat}(hi:i<n){y:List Value}(hy:y.length=5){z:Cq}(hz:P V y z):OptIn P V (setL o (0+i*5) y) n (λp=>if p=i then some z else f p):=by
 have h1:=Cells.set0 h (i:=i) (z:=some z) (by simpa using hi) hy (by intro z' e; cases e; exact hz)
 unfold OptIn
 have e:(List.range n).map (λp=>if p=i then some z else f p)=((List.range n).map f).set i (some z):=by
  apply List.ext_getElem (by simp)
  intro j h1 h2
  rw[List.getElem_set]
  simp only[List.getElem_map,List.getElem_range]
  by_cases c:j=i
  . subst c; simp
  . have c':¬i=j:=λx=>c x.symm
    simp[c,c']
 rw[e]; exact h1
theorem cells_some:∀ {zs:List Cq} {o:List Value},Cells 5 (optC P) V o (zs.map some)->Cells 5 P V o zs
 | [],_,h=>h
 | _::_,_,⟨x,o',e,hx,p,h⟩=>⟨x,o',e,hx,p _ rfl,cells_some h⟩
theorem OptIn.all{F:Nat->Cq}(h:OptIn P V o n f)(e:∀p,p<n->f p=some (F p)):Cells 5 P V o ((List.range n).map F):=by
 unfold OptIn at h
 have h2:(List.range n).map f=((List.range n).map F).map some:=by
  rw[List.map_map]
  exact List.map_congr_left λp hp=>e p (by simpa using hp)
 rw[h2]at h
 exact cells_some h
end
def modB(by':Int)(n:Nat):Nat:=(by'%(n:Int)).toNat
theorem modB_lt(b:Int){n:Nat}(h:0<n):modB b n<n:=by
 have h1:=Int.emod_nonneg b (b:=(n:Int)) (by omega)
 have h2:=Int.emod_lt_of_pos b (b:=(n:Int)) (by omega)
 unfold modB; omega
def preP(n b p:Nat):Nat:=if b<=p then p-b else p+n-b
theorem preP_eq{n b p k:Nat}(hb:b<n)(hp:p<n)(hk:k<n):preP n b p=k↔p=(k+b)%n:=by
 have e:(k+b)%n=if k+b<n then k+b else k+b-n:=by
  split
  . exact Nat.mod_eq_of_lt (by omega)
  . rw[Nat.mod_eq_sub_mod (by omega),Nat.mod_eq_of_lt (by omega)]
 rw[e]; unfold preP
 split<;>split<;>omega
theorem preP_lt{n b p:Nat}(hb:b<n)(hp:p<n):preP n b p<n:=by unfold preP; split<;>omega
def shiftF(zs:List Cq)(b:Int):List Cq:=(List.range zs.length).map λp=>nth zs (preP zs.length (modB b zs.length) p)
theorem shiftF_length(zs:List Cq)(b:Int):(shiftF zs b).length=zs.length:=by simp[shiftF]
theorem shiftF_nth{zs:List Cq}{b:Int}{i:Nat}(h:i<zs.length):nth (shiftF zs b) i=nth zs (preP zs.length (modB b zs.length) i):=nth_map h _
theorem moved_prog{n k:Nat}(b:Int)(hk:k<n)(hn:n<=2^40):Int.tmod (IntKind.i64.wrap ((IntKind.i64.wrap ((k:Int)+(Int.tmod b (n:Int))))+(n:Int))) (n:Int)=(((k+modB b n)%n:Nat):Int):=by
 have h0:(0:Int)<n:=by omega
 have h1:=Int.emod_nonneg b (b:=(n:Int)) (by omega)
 have h2:=Int.emod_lt_of_pos b h0
 have hb:=modB_lt b (n:=n) (by omega)
 have t1:Int.tmod b (n:Int)=(modB b n:Int)\/Int.tmod b (n:Int)=(modB b n:Int)-n:=by
  rw[Int.tmod_eq_emod]
  unfold modB
  split<;>omega
 have e:∀m:Nat,m<n->(((k:Int)+(m:Int))%(n:Int))=(((k+m)%n:Nat):Int):=λm _=>by rw[<-Int.natCast_add]; rfl
 rcases t1 with t|t<;>rw[t]
 . rw[i64w (n:=(k:Int)+_) (by omega) (by omega),i64w (by omega) (by omega),Int.tmod_eq_emod_of_nonneg (by omega),Int.add_emod_right]
   exact e _ hb
 . rw[i64w (n:=(k:Int)+_) (by omega) (by omega),i64w (by omega) (by omega),Int.tmod_eq_emod_of_nonneg (by omega),show(k:Int)+((modB b n:Int)-n)+n=(k:Int)+(modB b n:Int)by omega]
   exact e _ hb
def seqF(F:Nat->Cq)(k p:Nat):Option Cq:=if p<k then some (F p)else none
theorem seqF_zero(F:Nat->Cq)(p:Nat):seqF F 0 p=none:=by simp[seqF]
theorem seqF_step(F:Nat->Cq)(k p:Nat):(if p=k then some (F k)else seqF F k p)=seqF F (k+1) p:=by
 unfold seqF
 by_cases c:p=k
 . subst c; simp
 . rw[if_neg c]
   by_cases c2:p<k
   . rw[if_pos c2,if_pos (by omega)]
   . rw[if_neg c2,if_neg (by omega)]
theorem seqF_all{F:Nat->Cq}{n p:Nat}(h:p<n):seqF F n p=some (F p):=if_pos h
theorem OptIn.start(P:View->List Value->Cq->Prop)(V:View)(n:Nat)(F:Nat->Cq):OptIn P V ((List.replicate n [Value.bool false,Value.slice none 0 0,Value.bool false,Value.slice none 0 0,Value.slice none 0 0]).flatten) n (seqF F 0) :=
 (OptIn.zeros P V n).congr λp _=>(seqF_zero F p).symm
theorem OptIn.next{P:View->List Value->Cq->Prop}{V:View}{o:List Value}{n k:Nat}{F:Nat->Cq}(h:OptIn P V o n (seqF F k))(hk:k<n){y:List Value}(hy:y.length=5)(hz:P V y (F k)):OptIn P V (setL o (0+k*5) y) n (seqF F (k+1)) :=
 (h.set hk hy hz).congr λp _=>seqF_step F k p
def timesF(a b:List Cq):List Cq:=(List.range a.length).map λi=>nth a i*nth b i
theorem timesF_length(a b:List Cq):(timesF a b).length=a.length:=by simp[timesF]
def convS(a b:List Cq)(j:Nat):Nat->Cq
 | 0=>nth a 0*nth b j
 | k+1=>convS a b j k+nth a (k+1)*nth b ((j+a.length-(k+1))%a.length)
def convF(a b:List Cq):List Cq:=(List.range a.length).map λj=>convS a b j (a.length-1)
theorem convF_length(a b:List Cq):(convF a b).length=a.length:=by simp[convF]
theorem convS_sz{a b:List Cq}{S:Nat}(hl:b.length=a.length)(ha:∀i,i<a.length->(nth a i).sz<=S)(hb:∀i,i<a.length->(nth b i).sz<=S){j:Nat}(hj:j<a.length) :
 ∀k,k<a.length->(convS a b j k).sz<=(k+1)*(2*S+2)
 | 0,h=>by
   have h1:=ha 0 h; have h2:=hb j hj
   have h3:=Cq.sz_mul (nth a 0) (nth b j)
   simp only[convS]; omega
 | k+1,h=>by
   have h0:=convS_sz hl ha hb hj k (by omega)
   have h1:=ha (k+1) h
   have h2:=hb ((j+a.length-(k+1))%a.length) (Nat.mod_lt _ (by omega))
   have h3:=Cq.sz_mul (nth a (k+1)) (nth b ((j+a.length-(k+1))%a.length))
   have h4:=Cq.sz_add (convS a b j k) (nth a (k+1)*nth b ((j+a.length-(k+1))%a.length))
   rw[Nat.add_mul (k+1) 1]
   simp only[convS]; omega
theorem convIdx{n i j:Nat}(hi:i<n)(hj:j<n)(hn:n<=2^40):Int.tmod (IntKind.i64.wrap ((IntKind.i64.wrap ((j:Int)-(i:Int)))+(n:Int))) (n:Int)=(((j+n-i)%n:Nat):Int):=by
 rw[i64w (n:=(j:Int)-i) (by omega) (by omega),i64w (by omega) (by omega),Int.tmod_eq_emod_of_nonneg (by omega),show(j:Int)-i+n=((j+n-i:Nat):Int)by omega]; rfl
def esum(zs:List Cq):Nat->Cq
 | 0=>nth zs 0*(nth zs 0).conj
 | k+1=>esum zs k+nth zs (k+1)*(nth zs (k+1)).conj
def energyI(zs:List Cq)(k:Nat):Cq:=if k=0 then Cq.zero else esum zs (k-1)
theorem esum_sz{zs:List Cq}{S:Nat}(hS:∀i,i<zs.length->(nth zs i).sz<=S):∀k,k<zs.length->(esum zs k).sz<=(k+1)*(2*S+2)
 | 0,h=>by
   have h1:=hS 0 h
   have h2:=Cq.sz_conj (nth zs 0)
   have h3:=Cq.sz_mul (nth zs 0) (nth zs 0).conj
   simp only[esum]; omega
 | k+1,h=>by
   have h0:=esum_sz hS k (by omega)
   have h1:=hS (k+1) h
   have h2:=Cq.sz_conj (nth zs (k+1))
   have h3:=Cq.sz_mul (nth zs (k+1)) (nth zs (k+1)).conj
   have h4:=Cq.sz_add (esum zs k) (nth zs (k+1)*(nth zs (k+1)).conj)
   rw[Nat.add_mul (k+1) 1]
   simp only[esum]; omega
theorem energyI_step(zs:List Cq){k:Nat}(h:k≠0):energyI zs k+nth zs k*(nth zs k).conj=energyI zs (k+1):=by
 unfold energyI
 rw[if_neg h,if_neg (by omega)]
 obtain⟨j,rfl⟩:∃j,k=j+1:=⟨k-1,by omega⟩
 rfl
theorem energyI_sz{zs:List Cq}{S k:Nat}(hS:∀i,i<zs.length->(nth zs i).sz<=S)(hk:k<=zs.length):(energyI zs k).sz<=(k+1)*(2*S+2):=by
 unfold energyI
 split
 . have h1:=Cq.sz_zero
   have h2:=Nat.mul_le_mul_right (2*S+2) (show 1<=k+1 by omega)
   omega
 . have h1:=esum_sz hS (k-1) (by omega)
   have h2:=Nat.mul_le_mul_right (2*S+2) (show k-1+1<=k+1 by omega)
   omega
theorem cadd(a b:Cq):a+b=⟨a.re+b.re,a.im+b.im⟩:=rfl
theorem csub(a b:Cq):a-b=⟨a.re-b.re,a.im-b.im⟩:=rfl
theorem cmul(a b:Cq):a*b=⟨a.re*b.re-a.im*b.im,a.re*b.im+a.im*b.re⟩:=rfl
theorem cconj(a:Cq):a.conj=⟨a.re,-a.im⟩:=rfl
theorem ones4:onesF 2=[⟨1,0⟩,⟨0,-1⟩,⟨-1,0⟩,⟨0,1⟩]:=rfl
theorem ones2:onesF 1=[⟨1,0⟩,⟨-1,0⟩]:=rfl
theorem ones1:onesF 0=[⟨1,0⟩]:=rfl
theorem by_len{m:Nat}(hm:m<=2){zs:List Cq}(h:zs.length=2^m):(m=0/\∃a,zs=[a])\/(m=1/\∃a b,zs=[a,b])\/(m=2/\∃a b c d,zs=[a,b,c,d]):=by
 have:m=0\/m=1\/m=2:=by omega
 rcases this with rfl|rfl|rfl
 . exact .inl ⟨rfl,one_of h⟩
 . exact .inr (.inl ⟨rfl,two_of h⟩)
 . exact .inr (.inr ⟨rfl,four_of h⟩)
theorem plus4(a b c d e f g h:Cq):plusF [a,b,c,d] [e,f,g,h]=[a+e,b+f,c+g,d+h]:=rfl
theorem plus2(a b e f:Cq):plusF [a,b] [e,f]=[a+e,b+f]:=rfl
theorem plus1(a e:Cq):plusF [a] [e]=[a+e]:=rfl
theorem times4(a b c d e f g h:Cq):timesF [a,b,c,d] [e,f,g,h]=[a*e,b*f,c*g,d*h]:=rfl
theorem times2(a b e f:Cq):timesF [a,b] [e,f]=[a*e,b*f]:=rfl
theorem times1(a e:Cq):timesF [a] [e]=[a*e]:=rfl
theorem conv4(a b c d e f g h:Cq):convF [a,b,c,d] [e,f,g,h]=[a*e+b*h+c*g+d*f,a*f+b*e+c*h+d*g,a*g+b*f+c*e+d*h,a*h+b*g+c*f+d*e]:=by simp[convF,convS,nth,List.range_succ]
theorem conv2(a b e f:Cq):convF [a,b] [e,f]=[a*e+b*f,a*f+b*e]:=by simp[convF,convS,nth,List.range_succ]
theorem conv1(a e:Cq):convF [a] [e]=[a*e]:=rfl
theorem law_plus{m:Nat}(hm:m<=2){x y:List Cq}(hx:x.length=2^m)(hy:y.length=2^m):fwdF (plusF x y) (onesF m)=plusF (fwdF x (onesF m)) (fwdF y (onesF m)):=by
 rcases by_len hm hx with⟨rfl,a,rfl⟩|⟨rfl,a,b,rfl⟩|⟨rfl,a,b,c,d,rfl⟩
 . obtain⟨e,rfl⟩:=one_of hy
   rw[plus1,ones1,fwd1,fwd1,fwd1,plus1]
   refine list1 (Cq.ext' ?_ ?_)<;>(simp only[cadd,cmul]; grind)
 . obtain⟨e,f,rfl⟩:=two_of hy
   rw[plus2,ones2,fwd2,fwd2,fwd2,plus2]
   refine list2 (Cq.ext' ?_ ?_) (Cq.ext' ?_ ?_)<;>(simp only[cadd,cmul]; grind)
 . obtain⟨e,f,g,h,rfl⟩:=four_of hy
   rw[plus4,ones4,fwd4,fwd4,fwd4,plus4]
   refine list4 (Cq.ext' ?_ ?_) (Cq.ext' ?_ ?_) (Cq.ext' ?_ ?_) (Cq.ext' ?_ ?_)<;>(simp only[cadd,cmul]; grind)
theorem law_conv{m:Nat}(hm:m<=2){x y:List Cq}(hx:x.length=2^m)(hy:y.length=2^m):convF x y=convF y x:=by
 rcases by_len hm hx with⟨rfl,a,rfl⟩|⟨rfl,a,b,rfl⟩|⟨rfl,a,b,c,d,rfl⟩
 . obtain⟨e,rfl⟩:=one_of hy
   rw[conv1,conv1]
   refine list1 (Cq.ext' ?_ ?_)<;>(simp only[cadd,cmul]; grind)
 . obtain⟨e,f,rfl⟩:=two_of hy
   rw[conv2,conv2]
   refine list2 (Cq.ext' ?_ ?_) (Cq.ext' ?_ ?_)<;>(simp only[cadd,cmul]; grind)
 . obtain⟨e,f,g,h,rfl⟩:=four_of hy
   rw[conv4,conv4]
   refine list4 (Cq.ext' ?_ ?_) (Cq.ext' ?_ ?_) (Cq.ext' ?_ ?_) (Cq.ext' ?_ ?_)<;>(simp only[cadd,cmul]; grind)
theorem law_times{m:Nat}(hm:m<=2){x y:List Cq}(hx:x.length=2^m)(hy:y.length=2^m):fwdF (convF x y) (onesF m)=timesF (fwdF x (onesF m)) (fwdF y (onesF m)):=by
 rcases by_len hm hx with⟨rfl,a,rfl⟩|⟨rfl,a,b,rfl⟩|⟨rfl,a,b,c,d,rfl⟩
 . obtain⟨e,rfl⟩:=one_of hy
   rw[conv1,ones1,fwd1,fwd1,fwd1,times1]
   refine list1 (Cq.ext' ?_ ?_)<;>(simp only[cadd,cmul]; grind)
 . obtain⟨e,f,rfl⟩:=two_of hy
   rw[conv2,ones2,fwd2,fwd2,fwd2,times2]
   refine list2 (Cq.ext' ?_ ?_) (Cq.ext' ?_ ?_)<;>(simp only[cadd,cmul]; grind)
 . obtain⟨e,f,g,h,rfl⟩:=four_of hy
   rw[conv4,ones4,fwd4,fwd4,fwd4,times4]
   refine list4 (Cq.ext' ?_ ?_) (Cq.ext' ?_ ?_) (Cq.ext' ?_ ?_) (Cq.ext' ?_ ?_)<;>(simp only[cadd,cmul]; grind)
theorem energy4(a b c d:Cq):energyI [a,b,c,d] 4=a*a.conj+b*b.conj+c*c.conj+d*d.conj:=rfl
theorem energy2(a b:Cq):energyI [a,b] 2=a*a.conj+b*b.conj:=rfl
theorem energy1(a:Cq):energyI [a] 1=a*a.conj:=rfl
theorem law_energy{m:Nat}(hm:m<=2){x:List Cq}(hx:x.length=2^m):energyI (fwdF x (onesF m)) (2^m)=energyI x (2^m)*⟨(((2^m:Nat):Int):Rat),0⟩:=by
 rcases by_len hm hx with⟨rfl,a,rfl⟩|⟨rfl,a,b,rfl⟩|⟨rfl,a,b,c,d,rfl⟩
 . rw[ones1,fwd1]
   show energyI _ 1=energyI _ 1*⟨1,0⟩
   rw[energy1,energy1]
   refine Cq.ext' ?_ ?_<;>(simp only[cadd,cmul,cconj]; grind)
 . rw[ones2,fwd2]
   show energyI _ 2=energyI _ 2*⟨2,0⟩
   rw[energy2,energy2]
   refine Cq.ext' ?_ ?_<;>(simp only[cadd,cmul,cconj]; grind)
 . rw[ones4,fwd4]
   show energyI _ 4=energyI _ 4*⟨4,0⟩
   rw[energy4,energy4]
   refine Cq.ext' ?_ ?_<;>(simp only[cadd,cmul,cconj]; grind)
def shS(zs:List Cq)(s:Nat):List Cq:=(List.range zs.length).map λp=>nth zs (preP zs.length s p)
theorem shiftF_S(zs:List Cq)(b:Int):shiftF zs b=shS zs (modB b zs.length):=rfl
def turnS(zs ws:List Cq)(s:Nat):List Cq:=(List.range zs.length).map λk=>nth zs k*nth ws ((k*s)%zs.length)
theorem law_shift'{m:Nat}(hm:m<=2){x:List Cq}(hx:x.length=2^m){s:Nat}(hs:s<2^m):fwdF (shS x s) (onesF m)=turnS (fwdF x (onesF m)) (onesF m) s:=by
 rcases by_len hm hx with⟨rfl,a,rfl⟩|⟨rfl,a,b,rfl⟩|⟨rfl,a,b,c,d,rfl⟩
 . have:s=0:=by simp at hs; exact hs
   subst this
   rw[show shS [a] 0=[a]from rfl,ones1,fwd1]
   show _=[a*⟨1,0⟩*⟨1,0⟩]
   refine list1 (Cq.ext' ?_ ?_)<;>(simp only[cadd,cmul]; grind)
 . have:s=0\/s=1:=by omega
   rcases this with rfl|rfl
   . rw[show shS [a,b] 0=[a,b]from rfl,ones2,fwd2]
     show _=[(a*⟨1,0⟩+b*⟨1,0⟩)*⟨1,0⟩,(a*⟨1,0⟩+b*⟨-1,0⟩)*⟨1,0⟩]
     refine list2 (Cq.ext' ?_ ?_) (Cq.ext' ?_ ?_)<;>(simp only[cadd,cmul]; grind)
   . rw[show shS [a,b] 1=[b,a]from rfl,ones2,fwd2,fwd2]
     show _=[(a*⟨1,0⟩+b*⟨1,0⟩)*⟨1,0⟩,(a*⟨1,0⟩+b*⟨-1,0⟩)*⟨-1,0⟩]
     refine list2 (Cq.ext' ?_ ?_) (Cq.ext' ?_ ?_)<;>(simp only[cadd,cmul]; grind)
 . have t4:∀(p q r t w0 w1 w2 w3:Cq) (s:Nat),turnS [p,q,r,t] [w0,w1,w2,w3] s=[p*nth [w0,w1,w2,w3] (0*s%4),q*nth [w0,w1,w2,w3] (1*s%4),r*nth [w0,w1,w2,w3] (2*s%4),t*nth [w0,w1,w2,w3] (3*s%4)]:=λ_ _ _ _ _ _ _ _ _=>rfl
   have:s=0\/s=1\/s=2\/s=3:=by omega
   rcases this with rfl|rfl|rfl|rfl
   . rw[show shS [a,b,c,d] 0=[a,b,c,d]from rfl,ones4,fwd4,t4]
     refine list4 (Cq.ext' ?_ ?_) (Cq.ext' ?_ ?_) (Cq.ext' ?_ ?_) (Cq.ext' ?_ ?_)<;>(simp[cadd,cmul,nth]; try grind)
   . rw[show shS [a,b,c,d] 1=[d,a,b,c]from rfl,ones4,fwd4,fwd4,t4]
     refine list4 (Cq.ext' ?_ ?_) (Cq.ext' ?_ ?_) (Cq.ext' ?_ ?_) (Cq.ext' ?_ ?_)<;>(simp[cadd,cmul,nth]; try grind)
   . rw[show shS [a,b,c,d] 2=[c,d,a,b]from rfl,ones4,fwd4,fwd4,t4]
     refine list4 (Cq.ext' ?_ ?_) (Cq.ext' ?_ ?_) (Cq.ext' ?_ ?_) (Cq.ext' ?_ ?_)<;>(simp[cadd,cmul,nth]; try grind)
   . rw[show shS [a,b,c,d] 3=[b,c,d,a]from rfl,ones4,fwd4,fwd4,t4]
     refine list4 (Cq.ext' ?_ ?_) (Cq.ext' ?_ ?_) (Cq.ext' ?_ ?_) (Cq.ext' ?_ ?_)<;>(simp[cadd,cmul,nth]; try grind)
def View.or(m V:View):View:=λb=>match m b with|some cs=>some cs|none=>V b
theorem View.or_left{m V:View}{b:Nat}{cs:Array Value}(h:m b=some cs):View.or m V b=some cs:=by unfold View.or; rw[h]
theorem View.or_right{m V:View}{b:Nat}(h:m b=none):View.or m V b=V b:=by unfold View.or; rw[h]
theorem View.or_some{m V:View}{b:Nat}{cs:Array Value}(h:View.or m V b=some cs):m b=some cs\/(m b=none/\V b=some cs):=by
 unfold View.or at h
 cases e:m b with
 | some c=>rw[e]at h; exact .inl h
 | none=>rw[e]at h; exact .inr ⟨rfl,h⟩
def View.apart(m V:View):Prop:=∀b cs,m b=some cs->V b=none
theorem View.le_or{m V:View}(h:m.apart V):V.le (View.or m V):=λb cs e=>by
 cases hm:m b with
 | none=>rw[View.or_right hm]; exact e
 | some c=>rw[h b c hm]at e; simp at e
theorem View.or_mono{m V V':View}(hle:V.le V'):(View.or m V).le (View.or m V'):=λb cs e=>by
 rcases View.or_some e with h|⟨h,h'⟩
 . exact View.or_left h
 . rw[View.or_right h]; exact hle _ _ h'
theorem View.or_In{m V:View}{w:World}(hV:V.In w)(hm:m.Lies V w):(View.or m V).In w:=λb cs e=>by
 rcases View.or_some e with h|⟨_,h⟩
 . obtain⟨⟨T,hT⟩,_⟩:=hm b cs h; exact⟨T,_,hT⟩
 . exact hV b cs h
theorem lies_lt{m V:View}{w:World}(h:m.Lies V w){b:Nat}{cs:Array Value}(e:m b=some cs):b<w.heap.size:=by
 obtain⟨⟨T,hT⟩,_⟩:=h b cs e
 rcases Nat.lt_or_ge b w.heap.size with g|g
 . exact g
 . rw[Array.getElem?_eq_none g]at hT; simp at hT
section
variable {P:Program} {f:FuncId} {args:Array Value} {m V:View}
theorem CallR.shown{R:Value->View->Prop}{K:Value->View->View->Prop}(h:CallV P f args (View.or m V) R)
 (hk:∀v V2 V3,V.le V3->V2=View.or m V3->m.apart V3->R v V2->K v m V3):CallR P f args m V K:=by
 intro w hw hm
 refine(h w (View.or_In hw hm)).mono λe w' ⟨v,V2,he,hle,hin,hf,hb,hr⟩ => ?_
 let V3:View:=λb=>match m b with|some _=>none|none=>V2 b
 have e3:∀b,m b=none->V3 b=V2 b:=λb h=>by show(match m b with|some _=>none|none=>V2 b)=_; rw[h]
 have e3':∀b cs,m b=some cs->V3 b=none:=λb cs h=>by show(match m b with|some _=>none|none=>V2 b)=_; rw[h]
 have hV2:V2=View.or m V3:=funext λb=>by
  cases hmb:m b with
  | none=>rw[View.or_right hmb,e3 b hmb]
  | some cs=>rw[View.or_left hmb,hle b cs (View.or_left hmb)]
 have hle3:V.le V3:=λb cs g=>by
  cases hmb:m b with
  | none=>rw[e3 b hmb]; exact hle b cs (by rw[View.or_right hmb]; exact g)
  | some c=>rw[(hm b c hmb).2]at g; simp at g
 refine⟨v,m,V3,he,hle3,λb cs g => ?_,λb cs g => ?_,.of_below hb,λb cs g=>⟨?_,e3' b cs g⟩,λb hb' => .inl hb',hk v V2 V3 hle3 hV2 (λb cs g=>e3' b cs g) hr⟩
 . cases hmb:m b with
   | none=>rw[e3 b hmb]at g; exact hin b cs g
   | some c=>rw[e3' b c hmb]at g; simp at g
 . cases hmb:m b with
   | none =>
     rw[e3 b hmb]at g
     rcases hf b cs g with k|k
     . rw[View.or_right hmb]at k; exact .inl k
     . exact .inr k
   | some c=>rw[e3' b c hmb]at g; simp at g
 . obtain⟨⟨T,hT⟩,_⟩:=hm b cs g
   exact⟨T,by rw[hb.block b (lies_lt hm g)]; exact hT⟩
theorem CallR.aside{R:Value->View->Prop}{K:Value->View->View->Prop}(h:CallV P f args V R)
 (hk:∀v V3,V.le V3->m.apart V3->R v V3->K v m V3):CallR P f args m V K:=by
 intro w hw hm
 refine(h w hw).mono λe w' ⟨v,V3,he,hle,hin,hf,hb,hr⟩ => ?_
 have ap:m.apart V3:=λb cs g=>by
  cases hv:V3 b with
  | none=>rfl
  | some c =>
    rcases hf b c hv with k|k
    . rw[(hm b cs g).2]at k; simp at k
    . have:=lies_lt hm g; omega
 refine⟨v,m,V3,he,hle,hin,hf,.of_below hb,λb cs g=>⟨?_,ap b cs g⟩,λb hb' => .inl hb',hk v V3 hle ap hr⟩
 obtain⟨⟨T,hT⟩,_⟩:=hm b cs g
 exact⟨T,by rw[hb.block b (lies_lt hm g)]; exact hT⟩
theorem CallR.joins{ty:TypeId}{R:Nat->Nat->List Value->List Value->View->Prop}{K:Value->View->View->Prop}(h:CallO P f args ty V R)
 (hk:∀(b n cap:Nat) (l rest:List Value) (V3:View),V.le V3->m.apart V3->m b=none\/l=[]->V3 b=none\/l=[]->R n cap l rest V3->K (ownRes b n cap rest) (if l=[]then m else View.upd m b l.toArray) V3):CallR P f args m V K:=by
 intro w hw hm
 refine(h w hw).mono λe w' ⟨b,n,cap,l,rest,V3,he,hle,hin,hf,hb,ho,hr⟩ => ?_
 have ap:m.apart V3:=λb cs g=>by
  cases hv:V3 b with
  | none=>rfl
  | some c =>
    rcases hf b c hv with k|k
    . rw[(hm b cs g).2]at k; simp at k
    . have:=lies_lt hm g; omega
 have ol:∀b cs,m b=some cs->(∃T,w'.heap[b]?=some (.cells cs T (0,0)))/\V3 b=none:=λb cs g=>by
  obtain⟨⟨T,hT⟩,_⟩:=hm b cs g
  exact⟨⟨T,by rw[hb.block b (lies_lt hm g)]; exact hT⟩,ap b cs g⟩
 by_cases h0:l=[]
 . have:=hk b n cap l rest V3 hle ap (.inr h0) (.inr h0) hr
   rw[if_pos h0]at this
   exact⟨_,m,V3,he,hle,hin,hf,.of_below hb,ol,λb hb' => .inl hb',this⟩
 . obtain⟨o1,o2,o3⟩:=ho h0
   have mb:m b=none:=by
    cases hmb:m b with
    | none=>rfl
    | some cs=>have:=lies_lt hm hmb; omega
   have:=hk b n cap l rest V3 hle ap (.inl mb) (.inl o3) hr
   rw[if_neg h0]at this
   refine⟨_,View.upd m b l.toArray,V3,he,hle,hin,hf,.of_below hb,λb' cs g => ?_,λb' hb' => ?_,this⟩
   . by_cases e:b'=b
     . subst e
       have g:some l.toArray=some cs:=by rw[<-g]; simp[View.upd]
       cases g
       exact⟨⟨ty,o2⟩,o3⟩
     . have g:m b'=some cs:=by rw[<-g]; simp[View.upd,e]
       exact ol b' cs g
   . by_cases e:b'=b
     . subst e; exact .inr o1
     . refine .inl ?_
       simpa [View.upd,e]using hb'
end
def infR:Nat:=9218868437227405312
theorem sign_eq:Ieee.double.signWeight=2^63:=rfl
def okW(w:Nat):Prop:=w<2^64/\w%2^63<=infR
instance (w:Nat):Decidable (okW w):=inferInstanceAs (Decidable (_/\_))
