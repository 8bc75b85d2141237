/- Part. -/
import Derived.Test.YtjadnpidefnpoaaGreatGBtl
import Derived.WalkKit
import Derived.ProofKit
import Derived.OpenShut
import Derived.IntWalk
import GoSem.Core.Float
namespace Go.Vc
open Go Go.RowKit
open Go.IntKind (i64 u64 u32 u8)
def wval:List Nat->Nat
 | []=>0
 | d::l=>d+4294967296*wval l
def dig(n:Nat):List Nat:=if h:n=0 then []else n%4294967296::dig (n / 4294967296)
termination_by n
decreasing_by omega
def WB(l:List Nat):Prop:=∀d∈l,d<4294967296
def wv(l:List Nat):List Value:=l.map λ(d:Nat)=>Value.int .u32 (d:Int)
theorem t05:dig 0=[]:=by rw[dig]; simp
theorem O06{n:Nat}(h:n≠0):dig n=n%4294967296::dig (n / 4294967296):=by rw[dig]; simp[h]
theorem F01(n:Nat):wval (dig n)=n:=by
 induction n using Nat.strongRecOn with
 | _ n ih =>
   by_cases h:n=0
   . subst h; simp[t05,wval]
   . rw[O06 h,wval,ih _ (by omega)]; omega
theorem b05(n:Nat):WB (dig n):=by
 induction n using Nat.strongRecOn with
 | _ n ih =>
   by_cases h:n=0
   . subst h; simp[t05,WB]
   . rw[O06 h]
     intro d hd
     rcases List.mem_cons.1 hd with rfl|hd
     . omega
     . exact ih _ (by omega) d hd
theorem m0h(a b:List Nat):wval (a++b)=wval a+4294967296^a.length*wval b:=by
 induction a with
 | nil=>simp[wval]
 | cons d l ih=>simp only[List.cons_append,wval,ih,List.length_cons,Nat.pow_succ]; grind
theorem n0h{l:List Nat}(h:WB l):wval l<4294967296^l.length:=by
 induction l with
 | nil=>simp[wval]
 | cons d l ih =>
   have h1:=ih (λx hx=>h x (by simp[hx]))
   have h2:=h d (by simp)
   simp only[wval,List.length_cons,Nat.pow_succ]
   omega
theorem k01(l:List Nat)(i:Nat):wval (l.take (i+1))=wval (l.take i)+l.getD i 0*4294967296^i:=by
 by_cases h:i<l.length
 . rw[List.take_succ_eq_append_getElem h,m0h]
   have:(l.take i).length=i:=by simp; omega
   rw[this]
   simp[wval,List.getD,h,Nat.mul_comm]
 . rw[List.take_of_length_le (by omega),List.take_of_length_le (by omega)]
   simp[List.getD,h]
theorem z01{l:List Nat}{i:Nat}(h:l.length<=i):wval (l.take i)=wval l:=by rw[List.take_of_length_le h]
theorem E07{l:List Nat}{i d:Nat}(h:i<l.length):wval ((l.set i d).take (i+1))=wval (l.take i)+d*4294967296^i:=by
 rw[k01]
 have h1:(l.set i d).take i=l.take i:=by rw[List.take_set_of_le (Nat.le_refl i)]
 rw[h1]; simp[List.getD,h]
theorem z0y(n:Nat):wval (List.replicate n 0)=0:=by
 induction n with
 | zero=>rfl
 | succ n ih=>simp[List.replicate_succ,wval,ih]
theorem a0k{l:List Nat}(h:∀d∈l,d=0):wval l=0:=by
 induction l with
 | nil=>rfl
 | cons d l ih=>simp[wval,h d (by simp),ih (λx hx=>h x (by simp[hx]))]
theorem p0i(l:List Nat)(i:Nat):wval l=wval (l.take i)+4294967296^(l.take i).length*wval (l.drop i):=by
 rw[<-m0h,List.take_append_drop]
theorem f13{l:List Nat}(h:WB l)(hl:∀d,l.getLast?=some d->d≠0):dig (wval l)=l:=by
 induction l with
 | nil=>simp[wval,t05]
 | cons d l ih =>
   have hd:=h d (by simp)
   have hb:WB l:=λx hx=>h x (by simp[hx])
   have hne:wval (d::l)≠0:=by
    intro h0
    simp only[wval]at h0
    have hd0:d=0:=by omega
    have hw0:wval l=0:=by omega
    cases l with
    | nil=>exact hl d (by simp) hd0
    | cons e l =>
      have h1:=ih hb (λx hx=>hl x (by simpa [List.getLast?_cons_cons]using hx))
      rw[hw0,t05]at h1; simp at h1
   rw[O06 hne]
   simp only[wval]
   have e1:(d+4294967296*wval l)%4294967296=d:=by omega
   have e2:(d+4294967296*wval l) / 4294967296=wval l:=by omega
   rw[e1,e2]
   cases l with
   | nil=>simp[wval,t05]
   | cons e l=>rw[ih hb (λx hx=>hl x (by simpa [List.getLast?_cons_cons]using hx))]
theorem N0v{n d:Nat}(h:(dig n).getLast?=some d):d≠0:=by
 induction n using Nat.strongRecOn with
 | _ n ih =>
   by_cases h0:n=0
   . subst h0; simp[t05]at h
   . rw[O06 h0]at h
     by_cases h1:n / 4294967296=0
     . rw[h1,t05]at h; simp at h; omega
     . rw[O06 h1,List.getLast?_cons_cons,<-O06 h1]at h
       exact ih _ (by omega) h
def wn(n:Nat):Nat:=(dig n).length
theorem U08:wn 0=0:=by simp[wn,t05]
theorem W05{n:Nat}:wn n=0↔n=0:=by
 constructor
 . intro h
   rcases Nat.eq_zero_or_pos n with h0|h0
   . exact h0
   . simp[wn,O06 (by omega:n≠0)]at h
 . rintro rfl; exact U08
theorem o0h(n:Nat):n<4294967296^wn n:=by
 have:=n0h (b05 n)
 rwa[F01]at this
theorem q17{n:Nat}(h:n≠0):4294967296^(wn n-1)<=n:=by
 induction n using Nat.strongRecOn with
 | _ n ih =>
   simp only[wn,O06 h,List.length_cons,Nat.add_sub_cancel]
   by_cases h1:n / 4294967296=0
   . rw[h1,t05]; simp; omega
   . have h2:=ih _ (by omega) h1
     have h3:wn (n / 4294967296)≠0:=by rw[Ne,W05]; exact h1
     have e:(dig (n / 4294967296)).length=wn (n / 4294967296)-1+1:=by simp only[wn]at h3 ⊢; omega
     rw[e,Nat.pow_succ]
     have:=Nat.mul_le_mul_right 4294967296 h2
     omega
theorem y04{n k:Nat}(h:n<4294967296^k):wn n<=k:=by
 rcases Nat.eq_zero_or_pos n with h0|h0
 . subst h0; simp[U08]
 . rcases Nat.lt_or_ge k (wn n)with h1|h1
   . exfalso
     have h2:=q17 (by omega:n≠0)
     have h3:4294967296^k<=4294967296^(wn n-1):=Nat.pow_le_pow_right (by omega) (by omega)
     omega
   . exact h1
theorem T0b{a b:Nat}(h:a<=b):wn a<=wn b:=y04 (Nat.lt_of_le_of_lt h (o0h b))
theorem w10(a b:Nat):wn (a+b)<=max (wn a) (wn b)+1:=by
 refine y04 ?_
 have h1:=o0h a
 have h2:=o0h b
 have h3:4294967296^wn a<=4294967296^max (wn a) (wn b):=Nat.pow_le_pow_right (by omega) (by omega)
 have h4:4294967296^wn b<=4294967296^max (wn a) (wn b):=Nat.pow_le_pow_right (by omega) (by omega)
 rw[Nat.pow_succ]; omega
theorem W0d(a b:Nat):wn (a*b)<=wn a+wn b:=by
 refine y04 ?_
 rw[Nat.pow_add]
 exact Nat.mul_lt_mul'' (o0h a) (o0h b)
theorem y10{n k:Nat}(h:n<2^(32*k)):wn n<=k:=by
 refine y04 ?_
 have:(4294967296:Nat)=2^32:=rfl
 rw[this,<-Nat.pow_mul]; exact h
structure Y01 (V:View) (s:Sl) (l:List Nat):Prop where
 load:∀(i d:Nat),l[i]?=Option.some d->V.load (s.a.map (·.add i))=some (.int .u32 (d:Int))
 len:s.len=l.length
 cap:s.len<=s.cap
 wb:WB l
def L00(V:View)(s:Sl)(n:Nat):Prop:=Y01 V s (dig n)
theorem Y01.le{V V':View}{s:Sl}{l:List Nat}(hle:V.le V')(h:Y01 V s l):Y01 V' s l :=
 ⟨λi d hi=>H01 hle (h.load i d hi),h.len,h.cap,h.wb⟩
theorem L00.le{V V':View}{s:Sl}{n:Nat}(hle:V.le V')(h:L00 V s n):L00 V' s n:=Y01.le hle h
theorem Y01.isSome{V:View}{s:Sl}{l:List Nat}(h:Y01 V s l)(hl:0<s.len):s.a.isSome=true:=by
 have hl':0<l.length:=by rw[<-h.len]; exact hl
 have:=h.load 0 _ (List.getElem?_eq_getElem hl')
 cases ha:s.a with
 | none=>rw[ha]at this; simp[View.load]at this
 | some a=>rfl
theorem Y01.get{V:View}{s:Sl}{l:List Nat}(h:Y01 V s l){i:Int}(h0:0<=i)(h1:i<s.len) :
 V.load (Option.map (λq=>Addr.add q (Int.toNat i*1)) s.a)=some (.int .u32 (l.getD i.toNat 0:Nat)):=by
 have hi:i.toNat<l.length:=by have:=h.len; omega
 have:=h.load i.toNat _ (List.getElem?_eq_getElem hi)
 simpa [List.getD,hi]using this
theorem Y01.getD_lt{V:View}{s:Sl}{l:List Nat}(h:Y01 V s l)(i:Nat):l.getD i 0<4294967296:=by
 by_cases hi:i<l.length
 . have:=h.wb (l[i]) (List.getElem_mem _)
   simpa [List.getD,hi]using this
 . simp[List.getD,hi]
theorem WB.getD{l:List Nat}(h:WB l)(i:Nat):l.getD i 0<4294967296:=by
 by_cases hi:i<l.length
 . have:=h (l[i]) (List.getElem_mem _)
   simpa [List.getD,hi]using this
 . simp[List.getD,hi]
theorem WB.set{l:List Nat}(h:WB l){i d:Nat}(hd:d<4294967296):WB (l.set i d):=by
 intro x hx
 rcases List.mem_or_eq_of_mem_set hx with h1|h1
 . exact h x h1
 . omega
theorem WB.zeros(n:Nat):WB (List.replicate n 0):=λd hd=>by rw[(List.mem_replicate.1 hd).2]; omega
theorem WB.take{l:List Nat}(h:WB l)(n:Nat):WB (l.take n):=λd hd=>h d (List.mem_of_mem_take hd)
theorem Y01.nil(V:View):Y01 V (Sl.mk none 0 0) []:=⟨λi d h=>by simp at h,rfl,by simp,λd h=>by simp at h⟩
theorem L00.zero(V:View):L00 V (Sl.mk none 0 0) 0:=by unfold L00; rw[t05]; exact Y01.nil V
theorem L0t{V:View}{s:Sl}{l:List Nat}(h:Y01 V s l)(hl:∀d,l.getLast?=some d->d≠0):L00 V s (wval l):=by
 unfold L00; rw[f13 h.wb hl]; exact h
theorem Y01.inj{V:View}{s:Sl}{a b:List Nat}(h1:Y01 V s a)(h2:Y01 V s b):a=b:=by
 have l1:=h1.len
 have l2:=h2.len
 apply List.ext_getElem?
 intro j
 by_cases hj:j<a.length
 . have g1:=h1.load j _ (List.getElem?_eq_getElem hj)
   have g2:=h2.load j _ (List.getElem?_eq_getElem (by omega))
   rw[g1]at g2
   simp only[Option.some.injEq,Value.int.injEq,true_and]at g2
   rw[List.getElem?_eq_getElem hj,List.getElem?_eq_getElem (by omega)]
   congr 1
   omega
 . rw[List.getElem?_eq_none (by omega),List.getElem?_eq_none (by omega)]
theorem L00.inj{V:View}{s:Sl}{a b:Nat}(h1:L00 V s a)(h2:L00 V s b):a=b:=by
 rw[<-F01 a,<-F01 b,Y01.inj h1 h2]
theorem L00.isSome{V:View}{s:Sl}{n:Nat}(h:L00 V s n)(hl:0<s.len):s.a.isSome=true:=Y01.isSome h hl
theorem L00.get{V:View}{s:Sl}{n:Nat}(h:L00 V s n){i:Int}(h0:0<=i)(h1:i<s.len) :
 V.load (Option.map (λq=>Addr.add q (Int.toNat i*1)) s.a)=some (.int .u32 ((dig n).getD i.toNat 0:Nat)):=Y01.get h h0 h1
theorem L00.getD_lt{V:View}{s:Sl}{n:Nat}(h:L00 V s n)(i:Nat):(dig n).getD i 0<4294967296:=Y01.getD_lt h i
theorem L00.len{V:View}{s:Sl}{n:Nat}(h:L00 V s n):s.len=(dig n).length:=Y01.len h
theorem Y01.of_block{V:View}{b:Nat}{l:List Nat}{n c:Nat}(hb:V b = .some (wv l).toArray)(hn:n=l.length)(hc:n<=c)(hw:WB l):Y01 V (Sl.mk (.some (Addr.mk b 0 none)) n c) l:=by
 refine⟨λi d hi => ?_,hn,hc,hw⟩
 by_cases e:i=0
 . subst e; simp[View.load,Addr.add,hb,wv,hi]
 . simp[View.load,Addr.add,hb,wv,hi,e]
theorem m01(l:List Nat):(wv l).length=l.length:=by simp[wv]
theorem m09{l:List Nat}{i:Nat}(h:i<l.length):(wv l)[i]? = .some (.int .u32 (l.getD i 0:Nat)):=by simp[wv,List.getD,h]
theorem S05(l:List Nat)(i d:Nat):(wv l).set i (.int .u32 (d:Nat))=wv (l.set i d):=by simp[wv,List.map_set]
theorem L05(n:Nat):(List.replicate n [Value.int .u32 0]).flatten=wv (List.replicate n 0):=by
 induction n with
 | zero=>rfl
 | succ n ih=>simp[List.replicate_succ,ih,wv]
def W0l(V:View)(s:Sl):Nat:=wval ((List.range s.len).map λi=>match V.load (s.a.map (·.add i))with | .some (.int _ n)=>n.toNat|_=>0)
theorem X0d{V:View}{s:Sl}{n:Nat}(h:L00 V s n):W0l V s=n:=by
 unfold W0l
 have e:((List.range s.len).map λi=>match V.load (s.a.map (·.add i))with | .some (.int _ n)=>n.toNat|_=>0)=dig n:=by
  apply List.ext_getElem?
  intro i
  have hl:=h.len
  by_cases hi:i<s.len
  . have:=Y01.load h i _ (List.getElem?_eq_getElem (by omega))
    simp[hi,this,List.getElem?_eq_getElem (by omega:i<(dig n).length)]
  . rw[List.getElem?_eq_none (by simp; omega),List.getElem?_eq_none (by omega)]
 rw[e,F01]
theorem i64w{n:Int}(h0 : -9223372036854775808<=n)(h1:n<=9223372036854775807):i64.wrap n=n:=IntWalk.i64_in n ⟨h0,h1⟩
theorem u64w{n:Int}(h0:0<=n)(h1:n<=18446744073709551615):u64.wrap n=n:=IntWalk.u64_in n ⟨h0,h1⟩
theorem u32w{n:Int}(h0:0<=n)(h1:n<=4294967295):u32.wrap n=n:=IntWalk.u32_in n ⟨h0,h1⟩
theorem u32m(n:Int):u32.wrap n=n%4294967296:=by rw[IntKind.wrap_u32]
theorem u64m(n:Int):u64.wrap n=n%18446744073709551616:=by simp[IntKind.wrap,IntKind.signed,IntKind.bits]
def ws(f:Nat->Nat):Nat->Nat
 | 0=>0
 | n+1=>ws f n+f n*4294967296^n
theorem B0q{f g:Nat->Nat}{n:Nat}(h:∀i,i<n->f i=g i):ws f n=ws g n:=by
 induction n with
 | zero=>rfl
 | succ n ih=>simp only[ws]; rw[ih (λi hi=>h i (by omega)),h n (by omega)]
theorem g15(l:List Nat)(n:Nat):ws (λi=>l.getD i 0) n=wval (l.take n):=by
 induction n with
 | zero=>simp[ws,wval]
 | succ n ih=>rw[k01,<-ih]; rfl
theorem s17{f:Nat->Nat}{n:Nat}(h:∀i,i<n->f i<4294967296):ws f n<4294967296^n:=by
 induction n with
 | zero=>simp[ws]
 | succ n ih =>
   have h1:=ih (λi hi=>h i (by omega))
   have h2:=Nat.mul_le_mul_right (4294967296^n) (Nat.succ_le_of_lt (h n (by omega)))
   simp only[ws,Nat.pow_succ]
   rw[Nat.succ_mul]at h2
   omega
theorem A16(f:Nat->Nat)(m n:Nat):ws f (m+n)=ws f m+4294967296^m*ws (λi=>f (m+i)) n:=by
 induction n with
 | zero=>simp[ws]
 | succ n ih =>
   show ws f (m+n)+f (m+n)*4294967296^(m+n)=_
   rw[ih]; simp only[ws,Nat.pow_add,Nat.mul_add]; grind
def seg(l:List Nat)(j k:Nat):Nat:=ws (λi=>l.getD (j+i) 0) k
theorem n06(l:List Nat)(j:Nat):seg l j 0=0:=rfl
theorem S02(l:List Nat)(j k:Nat):seg l j (k+1)=seg l j k+l.getD (j+k) 0*4294967296^k:=rfl
theorem C0q(l:List Nat)(k:Nat):seg l 0 k=wval (l.take k):=by
 unfold seg; simp only[Nat.zero_add]; exact g15 l k
theorem o08{l:List Nat}{k:Nat}(h:l.length<=k):seg l 0 k=wval l:=by rw[C0q,z01 h]
theorem W08(l:List Nat)(j m n:Nat):seg l j (m+n)=seg l j m+4294967296^m*seg l (j+m) n:=by
 unfold seg; rw[A16]
 congr 2
 exact B0q λi _=>by rw[Nat.add_assoc]
theorem O0e{l:List Nat}(h:WB l)(j k:Nat):seg l j k<4294967296^k:=s17 λ_ _=>h.getD _
theorem b07(l:List Nat)(p d i:Nat):(l.set p d).getD i 0=if i=p/\p<l.length then d else l.getD i 0:=by
 simp only[List.getD,List.getElem?_set]
 by_cases e:p=i
 . subst e
   by_cases h:p<l.length
   . simp[h]
   . simp[h]
 . have e':¬i=p:=λx=>e x.symm
   simp[e,e']
theorem q09{l:List Nat}{p d j k:Nat}(h:p<j\/j+k<=p):seg (l.set p d) j k=seg l j k:=by
 refine B0q λi hi => ?_
 rw[b07,if_neg (by omega)]
theorem i03{l:List Nat}{p d j k:Nat}(hp:p=j+k)(hl:p<l.length):seg (l.set p d) j (k+1)=seg l j k+d*4294967296^k:=by
 rw[S02,q09 (by omega),b07,if_pos (by omega)]
theorem D0q{l:List Nat}{p d j k:Nat}(h1:j<=p)(h2:p<j+k)(hl:p<l.length):seg (l.set p d) j k+l.getD p 0*4294967296^(p-j)=seg l j k+d*4294967296^(p-j):=by
 induction k with
 | zero=>omega
 | succ k ih =>
   rcases Nat.lt_or_ge p (j+k)with h|h
   . have:=ih h
     rw[S02,S02,b07,if_neg (by omega)]; omega
   . have e:p=j+k:=by omega
     rw[i03 e hl,S02,show p-j=k by omega,<-e]; omega
theorem E0q(n j k:Nat):seg (List.replicate n 0) j k=0:=by
 induction k with
 | zero=>rfl
 | succ k ih =>
   rw[S02,ih]
   have:(List.replicate n 0).getD (j+k) 0=0:=by
    simp only[List.getD,List.getElem?_replicate]; split<;>rfl
   rw[this]; simp
theorem g13{B v1 v2 P V W guess rest top u0:Nat}(hV:V<=(v1*B+v2+1)*P)(hW:(top*B+u0)*P<=W)
 (hg:guess*v1+rest=top) (hc:guess*v2<=rest*B+u0) (hB:guess<=v1*B+v2+1):(guess-1)*V<=W:=by
 rcases Nat.eq_zero_or_pos guess with h0|h0
 . subst h0; simp
 obtain⟨g,rfl⟩:∃g,guess=g+1:=⟨guess-1,by omega⟩
 simp only[Nat.add_sub_cancel]
 have h1:(g+1)*(v1*B+v2)<=top*B+u0:=by
  subst hg
  have:(g+1)*(v1*B+v2)=(g+1)*v1*B+(g+1)*v2:=by grind
  have h2:((g+1)*v1+rest)*B=(g+1)*v1*B+rest*B:=by grind
  omega
 have h2:g*(v1*B+v2+1)<=(g+1)*(v1*B+v2):=by
  have:g*(v1*B+v2+1)=g*(v1*B+v2)+g:=by grind
  have h3:(g+1)*(v1*B+v2)=g*(v1*B+v2)+(v1*B+v2):=by grind
  omega
 have h3:=Nat.mul_le_mul_left g hV
 have h4:=Nat.mul_le_mul_right P (Nat.le_trans h2 h1)
 have e:g*((v1*B+v2+1)*P)=g*(v1*B+v2+1)*P:=by grind
 omega
end Go.Vc
namespace Go.Vc
open Go
theorem K0s(X:BitVec IntKind.u32.bits):IntKind.u32.wrap (X.toNat:Int)=X.toNat:=by
 have h:X.toNat<4294967296:=X.isLt
 exact u32w (by omega) (by omega)
theorem L0s{w:Nat}(X:BitVec w):BitVec.ofInt w (X.toNat:Int)=X:=by
 rw[BitVec.ofInt_natCast,BitVec.ofNat_toNat,BitVec.setWidth_eq]
theorem of32{n:Nat}(h:n<4294967296):(BitVec.ofInt 32 (n:Int)).toNat=n:=by
 rw[BitVec.ofInt_natCast,BitVec.toNat_ofNat]; exact Nat.mod_eq_of_lt h
theorem of64{n:Nat}(h:n<18446744073709551616):(BitVec.ofInt 64 (n:Int)).toNat=n:=by
 rw[BitVec.ofInt_natCast,BitVec.toNat_ofNat]; exact Nat.mod_eq_of_lt h
theorem or64{a b:Nat}(ha:a<4294967296)(hb:b<4294967296) :
 BitVec.toNat ((BitVec.ofInt IntKind.u64.bits (((b*4294967296:Nat)):Int)) ||| (BitVec.ofInt IntKind.u64.bits ((a:Nat):Int)))=b*4294967296+a:=by
 have e:IntKind.u64.bits=64:=rfl
 rw[e,BitVec.ofInt_natCast,BitVec.ofInt_natCast,BitVec.toNat_or,BitVec.toNat_ofNat,BitVec.toNat_ofNat,Nat.mod_eq_of_lt (by omega),Nat.mod_eq_of_lt (by omega)]
 have:=Nat.two_pow_add_eq_or_of_lt (i:=32) (b:=a) (by omega) b
 rw[show b*4294967296=2^32*b by omega,<-this]
theorem B16{a b:Nat}(ha:a<4294967296)(hb:b<4294967296) :
 BitVec.toNat ((BitVec.ofInt IntKind.u64.bits ((a:Nat):Int)) ||| (BitVec.ofInt IntKind.u64.bits (((b*4294967296:Nat)):Int)))=b*4294967296+a:=by
 rw[BitVec.or_comm]; exact or64 ha hb
theorem u17(X:BitVec IntKind.u32.bits):Int.fdiv (X.toNat:Int) (2^(min (Int.toNat 31) (IntKind.u32.bits)))=X.msb.toNat:=by
 have e:(2:Int)^(min (Int.toNat 31) (IntKind.u32.bits))=2147483648:=by decide
 have h:X.toNat<4294967296:=X.isLt
 rw[e,Int.fdiv_eq_ediv_of_nonneg _ (by omega),BitVec.msb_eq_decide]
 have e2:2^(IntKind.u32.bits-1)=2147483648:=by decide
 rw[e2]
 by_cases hx:2147483648<=X.toNat
 . simp[hx]; omega
 . simp[hx]; omega
theorem z10{x y b:Nat}(hx:x<4294967296)(hy:y<4294967296)(hb:b<=1)(X Y D:BitVec 32)(hX:X.toNat=x)(hY:Y.toNat=y)(hD:D.toNat=(x+8589934592-y-b)%4294967296)(M:BitVec 32)(hM:M=BitVec.allOnes 32) :
 (((M ^^^ X) &&& Y) ||| ((M ^^^ (X ^^^ Y)) &&& D)).msb.toNat=if x<y+b then 1 else 0:=by
 subst hM
 simp only[BitVec.msb_or,BitVec.msb_and,BitVec.msb_xor,BitVec.msb_allOnes (w:=32) (by omega)]
 simp only[BitVec.msb_eq_decide,hX,hY,hD]
 have e2:2^(32-1)=2147483648:=by decide
 rw[e2]
 by_cases h1:2147483648<=x<;>by_cases h2:2147483648<=y<;>by_cases h3:2147483648<=(x+8589934592-y-b)%4294967296<;>simp[h1,h2,h3]<;>omega
theorem q0i(a i:Nat):(dig a).getD i 0=a / 4294967296^i%4294967296:=by
 induction i generalizing a with
 | zero =>
   by_cases h:a=0
   . subst h; simp[t05]
   . rw[O06 h]; simp
 | succ i ih =>
   by_cases h:a=0
   . subst h; simp[t05]
   . rw[O06 h,List.getD_cons_succ,ih,Nat.pow_succ,Nat.mul_comm,Nat.div_div_eq_div_mul]
def bl(n:Nat):Nat:=if n=0 then 0 else Nat.log2 n+1
theorem z0e:bl 0=0:=by simp[bl]
theorem s0i(n:Nat):n<2^bl n:=by
 unfold bl; split
 . omega
 . exact Nat.lt_log2_self
theorem B0g{n:Nat}(h:n≠0):2^(bl n-1)<=n:=by
 simp only[bl,h,if_false,Nat.add_sub_cancel]; exact Nat.log2_self_le h
theorem b0k{n:Nat}(h:n≠0):0<bl n:=by simp[bl,h]
theorem C16{n k:Nat}(h1:2^k<=n)(h2:n<2^(k+1)):bl n=k+1:=by
 have h0:n≠0:=by have:=Nat.two_pow_pos k; omega
 have a1:=s0i n
 have a2:=B0g h0
 have a3:=b0k h0
 have b1:k<bl n:=(Nat.pow_lt_pow_iff_right (a:=2) (by omega)).1 (Nat.lt_of_le_of_lt h1 a1)
 have b2:bl n-1<k+1:=(Nat.pow_lt_pow_iff_right (a:=2) (by omega)).1 (Nat.lt_of_le_of_lt a2 h2)
 omega
theorem O0v{n m:Nat}(k:Nat)(h0:n≠0)(h1:n*2^k<=m)(h2:m<(n+1)*2^k):bl m=bl n+k:=by
 have a1:=s0i n
 have a2:=B0g h0
 have a3:=b0k h0
 have e:bl n+k=(bl n-1+k)+1:=by omega
 rw[e]
 refine C16 ?_ ?_
 . rw[Nat.pow_add]; exact Nat.le_trans (Nat.mul_le_mul_right _ a2) h1
 . rw[show bl n-1+k+1=bl n+k by omega,Nat.pow_add]; exact Nat.lt_of_lt_of_le h2 (Nat.mul_le_mul_right _ a1)
theorem P0v{m:Nat}(k:Nat)(h:2^k<=m):bl m=bl (m / 2^k)+k:=by
 have hp:=Nat.two_pow_pos k
 have hd:0<m / 2^k:=Nat.div_pos h hp
 refine O0v k (by omega) (Nat.div_mul_le_self _ _) ?_
 have:=Nat.lt_succ_iff.2 (Nat.le_refl (m / 2^k))
 exact(Nat.div_lt_iff_lt_mul hp).1 this
theorem td32(n:Nat):Int.tdiv (n:Int) 32=((n / 32:Nat):Int):=(Int.ofNat_tdiv n 32).symm
theorem tm32(n:Nat):Int.tmod (n:Int) 32=((n%32:Nat):Int):=(Int.ofNat_tmod n 32).symm
theorem z14{r h lo:Nat}(hh:h<2^r):(h ||| lo*2^r)=h+lo*2^r:=by
 have:=Nat.two_pow_add_eq_or_of_lt hh lo
 rw[Nat.or_comm,show lo*2^r=2^r*lo by rw[Nat.mul_comm],<-this]; omega
theorem D16{a b:Nat}(ha:a<4294967296)(hb:b<4294967296) :
 BitVec.toNat ((BitVec.ofInt IntKind.u32.bits ((a:Nat):Int)) ||| (BitVec.ofInt IntKind.u32.bits ((b:Nat):Int)))=a ||| b:=by
 have e:IntKind.u32.bits=32:=rfl
 rw[e,BitVec.ofInt_natCast,BitVec.ofInt_natCast,BitVec.toNat_or,BitVec.toNat_ofNat,BitVec.toNat_ofNat,Nat.mod_eq_of_lt (by omega),Nat.mod_eq_of_lt (by omega)]
structure y0f (P vN v1 v2 u2 u1 u0 W:Nat):Prop where
 h1:v1<4294967296
 h2:v2<4294967296
 pos:0<v1
 k2:u2<=v1
 k1:u1<4294967296
 k0:u0<4294967296
 vlo:(v1*4294967296+v2)*P<=vN
 vhi:vN<=(v1*4294967296+v2+1)*P
 wlo:((u2*4294967296+u1)*4294967296+u0)*P<=W
 whi:W<((u2*4294967296+u1)*4294967296+u0+1)*P
 lt:W<4294967296*vN
theorem y0f.big{P vN v1 v2 u2 u1 u0 W:Nat}(h:y0f P vN v1 v2 u2 u1 u0 W){q:Nat}(hq:q*vN<=W):q*(v1*4294967296+v2)<(u2*4294967296+u1)*4294967296+u0+1:=by
 rcases Nat.lt_or_ge (q*(v1*4294967296+v2)) ((u2*4294967296+u1)*4294967296+u0+1)with h1|h1
 . exact h1
 . exfalso
   have h2:=Nat.mul_le_mul_right P h1
   have h3:=Nat.mul_le_mul_left q h.vlo
   rw[<-Nat.mul_assoc]at h3
   have:=h.whi
   omega
theorem y0f.init{P vN v1 v2 u2 u1 u0 W:Nat}(h:y0f P vN v1 v2 u2 u1 u0 W):W / vN<=(u2*4294967296+u1) / v1:=by
 rw[Nat.le_div_iff_mul_le h.pos]
 have h1:=h.big (Nat.div_mul_le_self W vN)
 generalize W / vN=q at *
 have hu0:=h.k0
 have e:q*(v1*4294967296+v2)=q*v1*4294967296+q*v2:=by rw[Nat.mul_add,Nat.mul_assoc]
 rw[e]at h1
 omega
theorem y0f.quo{P vN v1 v2 u2 u1 u0 W:Nat}(h:y0f P vN v1 v2 u2 u1 u0 W):W / vN<4294967296:=by
 have:=h.lt
 rw[Nat.div_lt_iff_lt_mul]
 . exact this
 . rcases Nat.eq_zero_or_pos vN with h0|h0
   . subst h0; omega
   . exact h0
theorem y0f.dec{P vN v1 v2 u2 u1 u0 W g r:Nat}(h:y0f P vN v1 v2 u2 u1 u0 W)(hg:g*v1+r=u2*4294967296+u1)(hc:r*4294967296+u0<g*v2):W / vN<g:=by
 have h1:=h.big (Nat.div_mul_le_self W vN)
 generalize W / vN=q at *
 rcases Nat.lt_or_ge q g with h2|h2
 . exact h2
 . exfalso
   have h3:=Nat.mul_le_mul_right (v1*4294967296+v2) h2
   have e:g*(v1*4294967296+v2)=g*v1*4294967296+g*v2:=by rw[Nat.mul_add,Nat.mul_assoc]
   omega
theorem y0f.exit{P vN v1 v2 u2 u1 u0 W g r:Nat}(h:y0f P vN v1 v2 u2 u1 u0 W)(hg:g*v1+r=u2*4294967296+u1)(hB:g<4294967296)(hc:g*v2<=r*4294967296+u0):(g-1)*vN<=W:=by
 have:=h.pos
 exact g13 h.vhi h.wlo hg hc (by omega)
theorem y0f.brk{P vN v1 v2 u2 u1 u0 W g r:Nat}(h:y0f P vN v1 v2 u2 u1 u0 W)(hg:g*v1+r=u2*4294967296+u1)(h0:0<g)(hr:4294967296<=r+v1):g-1<4294967296/\(g-1-1)*vN<=W:=by
 obtain⟨g,rfl⟩:∃k,g=k+1:=⟨g-1,by omega⟩
 simp only[Nat.add_sub_cancel]
 have hg':g*v1+(r+v1)=u2*4294967296+u1:=by rw[Nat.succ_mul]at hg; omega
 have hB:g<4294967296:=by
  rcases Nat.lt_or_ge g 4294967296 with h1|h1
  . exact h1
  . exfalso
    have h2:=Nat.mul_le_mul_right v1 h1
    have:=h.k2
    have:=h.k1
    omega
 refine⟨hB,h.exit hg' hB ?_⟩
 have:=Nat.mul_le_mul (Nat.le_of_lt hB) (Nat.le_of_lt h.h2)
 have h3:=Nat.mul_le_mul_right 4294967296 hr
 omega
theorem M0s(l:List Nat)(j k:Nat):seg l j (k+1+1+1)=seg l j k+((l.getD (j+k+2) 0*4294967296+l.getD (j+k+1) 0)*4294967296+l.getD (j+k) 0)*4294967296^k:=by
 rw[S02,S02,S02,Nat.pow_succ,Nat.pow_succ,Nat.pow_succ,show j+(k+1+1)=j+k+2 by omega,show j+(k+1)=j+k+1 by omega]
 grind
theorem i15(l:List Nat)(j k:Nat):seg l j (k+1+1)=seg l j k+(l.getD (j+k+1) 0*4294967296+l.getD (j+k) 0)*4294967296^k:=by
 rw[S02,S02,Nat.pow_succ,show j+(k+1)=j+k+1 by omega]
 grind
theorem a0v(n:Nat){k:Nat}(h:wn n<=k):seg (dig n) 0 k=n:=by rw[o08 h,F01]
theorem F0q{n vN j:Nat}{u:List Nat}(hu:WB u)(hn:2<=n)(hv:wn vN=n)(hc:seg u (j+1) n<vN) :
 y0f (4294967296^(n-2)) vN ((dig vN).getD (n-1) 0) ((dig vN).getD (n-2) 0) (u.getD (j+n) 0) (u.getD (j+n-1) 0) (u.getD (j+n-2) 0) (seg u j (n+1)):=by
 obtain⟨k,rfl⟩:∃k,n=k+2:=⟨n-2,by omega⟩
 have e1:k+2-1=k+1:=rfl
 have e2:k+2-2=k:=rfl
 have e3:j+(k+2)=j+k+2:=rfl
 have e4:j+k+2-1=j+k+1:=rfl
 have e5:j+k+2-2=j+k:=rfl
 rw[e1,e2,e3,e4,e5]
 have hw:=b05 vN
 have hvs:=a0v vN (Nat.le_of_eq hv)
 rw[i15,Nat.zero_add]at hvs
 have b1:=O0e hw 0 k
 have b2:=O0e hu j k
 have hP:0<4294967296^k:=Nat.pow_pos (by omega)
 have top:=S02 u (j+1) (k+1)
 rw[show j+1+(k+1)=j+k+2 by omega]at top
 have hw1:seg u j (k+2+1)=u.getD j 0+4294967296*seg u (j+1) (k+2):=by
  rw[show k+2+1=1+(k+2)by omega,W08,S02,n06]; simp
 have b3:=hu.getD j
 refine⟨hw.getD _,hw.getD _,?_,?_,hu.getD _,hu.getD _,by omega,by rw[Nat.succ_mul]; omega,?_,?_,by rw[hw1]; omega⟩
 . rcases Nat.eq_zero_or_pos ((dig vN).getD (k+1) 0)with h0|h0
   . exfalso
     have hl:wn vN=k+2:=hv
     have h1:vN≠0:=by rintro rfl; rw[U08]at hl; omega
     have h2:(dig vN).getLast?=some ((dig vN).getD (k+1) 0):=by
      rw[List.getLast?_eq_getElem?]
      simp only[wn]at hl
      simp only[List.getD]
      rw[hl,show k+2-1=k+1 by omega,List.getElem?_eq_getElem (by omega)]; rfl
     exact N0v h2 h0
   . exact h0
 ·
   rcases Nat.lt_or_ge ((dig vN).getD (k+1) 0) (u.getD (j+k+2) 0)with h0|h0
   . exfalso
     have h1:=Nat.mul_le_mul_right (4294967296^(k+1)) (Nat.succ_le_of_lt h0)
     rw[Nat.succ_mul,Nat.pow_succ]at h1
     rw[show k+1+1=k+2 by omega,Nat.pow_succ]at top
     have h2:=hw.getD k
     have h3:=Nat.mul_le_mul_right (4294967296^k) (Nat.succ_le_of_lt h2)
     rw[Nat.succ_mul]at h3
     have e6:∀z,z*(4294967296^k*4294967296)=z*4294967296*4294967296^k:=by intro z; grind
     simp only[e6]at h1 top
     rw[Nat.add_mul]at hvs
     omega
   . exact h0
 . rw[show k+2+1=k+1+1+1 by omega,M0s]; omega
 . rw[show k+2+1=k+1+1+1 by omega,M0s,Nat.succ_mul]; omega
theorem i13{α:Type}(l:List α)(off:Nat)(vs:List α)(h:off+vs.length<=l.length):setL l off vs=l.take off++vs++l.drop (off+vs.length):=by
 induction vs generalizing l off with
 | nil=>simp[setL]
 | cons v vs ih =>
   simp only[List.length_cons]at h
   rw[setL,ih _ _ (by simp; omega)]
   apply List.ext_getElem?
   intro i
   simp only[List.getElem?_append,List.getElem?_take,List.getElem?_drop,List.getElem?_set,List.length_append,List.length_take,List.length_set,List.length_cons,List.getElem?_cons]
   have e1:min (off+1) l.length=off+1:=by omega
   have e2:min off l.length=off:=by omega
   rw[e1,e2]
   by_cases c1:i<off
   . have c2:¬off=i:=by omega
     simp[c1,c2,show i<off+1+vs.length by omega,show i<off+1 by omega,show i<off+(vs.length+1)by omega]
   . by_cases c2:i=off
     . subst c2
       simp[show i<i+1+vs.length by omega,show i<l.length by omega]
     . have c3:¬off=i:=λx=>c2 x.symm
       have c4:¬i<off+1:=by omega
       have c5:i-off≠0:=by omega
       simp only[c1,c4,if_false,c3]
       by_cases c6:i<off+1+vs.length
       . simp[c6,show i<off+(vs.length+1)by omega,c5,show i-off-1=i-(off+1)by omega]
       . simp only[c6,show ¬i<off+(vs.length+1)by omega,if_false]
         rw[if_neg (by omega)]
         congr 1; omega
theorem A10(n:Nat)(d:List Nat)(h:d.length<=n):setL (wv (List.replicate n 0)) 0 (wv d)=wv (d++List.replicate (n-d.length) 0):=by
 rw[i13 _ _ _ (by simp[wv]; omega)]
 simp[wv]
theorem Q0v(d:List Nat)(n:Nat):wval (d++List.replicate n 0)=wval d:=by rw[m0h,z0y]; simp
structure Cq where
 re:Rat
 im:Rat
theorem Cq.ext'{x y:Cq}(h1:x.re=y.re)(h2:x.im=y.im):x=y:=by cases x; cases y; cases h1; cases h2; rfl
instance:DecidableEq Cq:=λx y=>if h1:x.re=y.re then if h2:x.im=y.im then .isTrue (Cq.ext' h1 h2)else .isFalse (λe=>h2 (by rw[e]))else .isFalse (λe=>h1 (by rw[e]))
instance:Add Cq:=⟨λx y=>⟨x.re+y.re,x.im+y.im⟩⟩
instance:Neg Cq:=⟨λx=>⟨-x.re,-x.im⟩⟩
instance:Sub Cq:=⟨λx y=>⟨x.re-y.re,x.im-y.im⟩⟩
instance:Mul Cq:=⟨λx y=>⟨x.re*y.re-x.im*y.im,x.re*y.im+x.im*y.re⟩⟩
def Cq.zero:Cq:=⟨0,0⟩
theorem S0f(x y:Cq):(x+y).re=x.re+y.re:=rfl
theorem T0f(x y:Cq):(x+y).im=x.im+y.im:=rfl
theorem W0m(x y:Cq):(x-y).re=x.re-y.re:=rfl
theorem X0m(x y:Cq):(x-y).im=x.im-y.im:=rfl
theorem d0e(x:Cq):(-x).re = -x.re:=rfl
theorem e0e(x:Cq):(-x).im = -x.im:=rfl
theorem Y0m(x y:Cq):(x*y).re=x.re*y.re-x.im*y.im:=rfl
theorem Z0m(x y:Cq):(x*y).im=x.re*y.im+x.im*y.re:=rfl
structure Rep (z:Cq) (A B:Int) (D:Nat):Prop where
 pos:D≠0
 re:z.re=(A:Rat) / (D:Rat)
 im:z.im=(B:Rat) / (D:Rat)
structure K0k (z:Cq) (A B:Int) (D:Nat):Prop where
 rep:Rep z A B D
 cop:Nat.gcd (Nat.gcd A.natAbs B.natAbs) D=1
theorem i0b{D:Nat}(h:D≠0):(D:Rat)≠0:=by simpa using h
theorem L03{A A':Int}{D D':Nat}(h:D≠0)(h':D'≠0):(A:Rat) / (D:Rat)=(A':Rat) / (D':Rat)↔A*D'=A'*D:=by
 rw[<-Rat.mkRat_eq_div,<-Rat.mkRat_eq_div,Rat.mkRat_eq_iff h h']
theorem K0k.dvd{z:Cq}{A B A' B':Int}{D D':Nat}(h:K0k z A B D)(h':Rep z A' B' D'):D ∣ D':=by
 have e1:=(L03 h.rep.pos h'.pos).1 (h.rep.re.symm.trans h'.re)
 have e2:=(L03 h.rep.pos h'.pos).1 (h.rep.im.symm.trans h'.im)
 have f1:D ∣ A.natAbs*D':=by
  have:=congrArg Int.natAbs e1
  rw[Int.natAbs_mul,Int.natAbs_mul,Int.natAbs_natCast,Int.natAbs_natCast]at this
  exact⟨A'.natAbs,by rw[this,Nat.mul_comm]⟩
 have f2:D ∣ B.natAbs*D':=by
  have:=congrArg Int.natAbs e2
  rw[Int.natAbs_mul,Int.natAbs_mul,Int.natAbs_natCast,Int.natAbs_natCast]at this
  exact⟨B'.natAbs,by rw[this,Nat.mul_comm]⟩
 have f3:=Nat.dvd_gcd f1 f2
 rw[Nat.gcd_mul_right]at f3
 have hc:Nat.Coprime D (Nat.gcd A.natAbs B.natAbs):=by rw[Nat.Coprime,Nat.gcd_comm]; exact h.cop
 exact hc.dvd_of_dvd_mul_left f3
theorem K0k.inj{z:Cq}{A B A' B':Int}{D D':Nat}(h:K0k z A B D)(h':K0k z A' B' D'):A=A'/\B=B'/\D=D':=by
 have hD:D=D':=Nat.dvd_antisymm (h.dvd h'.rep) (h'.dvd h.rep)
 subst hD
 have e1:=(L03 h.rep.pos h'.rep.pos).1 (h.rep.re.symm.trans h'.rep.re)
 have e2:=(L03 h.rep.pos h'.rep.pos).1 (h.rep.im.symm.trans h'.rep.im)
 have hD:(D:Int)≠0:=by have:=h.rep.pos; omega
 exact⟨Int.eq_of_mul_eq_mul_right hD e1,Int.eq_of_mul_eq_mul_right hD e2,rfl⟩
def gcd3(A B:Int)(D:Nat):Nat:=Nat.gcd (Nat.gcd A.natAbs B.natAbs) D
theorem G0q(A B:Int){D:Nat}(h:D≠0):0<gcd3 A B D:=Nat.gcd_pos_of_pos_right _ (by omega)
theorem t0i(A B:Int)(D:Nat):gcd3 A B D ∣ A.natAbs:=Nat.dvd_trans (Nat.gcd_dvd_left _ _) (Nat.gcd_dvd_left _ _)
theorem u0i(A B:Int)(D:Nat):gcd3 A B D ∣ B.natAbs:=Nat.dvd_trans (Nat.gcd_dvd_left _ _) (Nat.gcd_dvd_right _ _)
theorem X0l(A B:Int)(D:Nat):gcd3 A B D ∣ D:=Nat.gcd_dvd_right _ _
theorem w08{A:Int}{g:Nat}(h:g ∣ A.natAbs):(A / (g:Int)).natAbs=A.natAbs / g:=by
 obtain⟨k,hk⟩:=h
 rcases Nat.eq_zero_or_pos g with h0|h0
 . subst h0; simp
 . have hg:(g:Int)≠0:=by omega
   rcases Int.natAbs_eq A with e|e
   . rw[hk]at e; rw[e,Int.natCast_mul,Int.mul_ediv_cancel_left _ hg,Int.natAbs_natCast,Int.natAbs_mul,Int.natAbs_natCast,Int.natAbs_natCast,Nat.mul_div_cancel_left _ h0]
   . rw[hk]at e; rw[e,Int.natCast_mul,<-Int.mul_neg,Int.mul_ediv_cancel_left _ hg,Int.natAbs_neg,Int.natAbs_natCast,Int.natAbs_mul,Int.natAbs_natCast,Int.natAbs_neg,Int.natAbs_natCast,Nat.mul_div_cancel_left _ h0]
theorem O0o{A:Int}{g:Nat}(h:g ∣ A.natAbs):A / (g:Int)*g=A:=Int.ediv_mul_cancel (Int.ofNat_dvd_left.2 h)
theorem A0e{A:Int}{g:Nat}(h:g ∣ A.natAbs)(hg:0<g):decide (A / (g:Int)<0)=decide (A<0):=by
 have e:=O0o h
 have hg':(0:Int)<g:=by omega
 have:A / (g:Int)<0↔A<0:=by
  constructor
  . intro h1
    have:=Int.mul_neg_of_neg_of_pos h1 hg'
    omega
  . intro h1
    rcases Int.lt_or_le (A / (g:Int)) 0 with h2|h2
    . exact h2
    . have:=Int.mul_nonneg h2 (Int.le_of_lt hg'); omega
 simp[this]
theorem Rep.canon{z:Cq}{A B:Int}{D:Nat}(h:Rep z A B D):K0k z (A / (gcd3 A B D:Nat)) (B / (gcd3 A B D:Nat)) (D / gcd3 A B D):=by
 have hg:=G0q A B h.pos
 have d1:=t0i A B D
 have d2:=u0i A B D
 have d3:=X0l A B D
 have hne:D / gcd3 A B D≠0:=by
  have:=Nat.div_pos (Nat.le_of_dvd (by have:=h.pos; omega) d3) hg
  omega
 have key:∀ {C:Int},gcd3 A B D ∣ C.natAbs->(C:Rat) / (D:Rat)=((C / (gcd3 A B D:Nat):Int):Rat) / ((D / gcd3 A B D:Nat):Rat):=by
  intro C hC
  rw[L03 h.pos hne]
  have e1:=O0o hC
  have e2:=Nat.div_mul_cancel d3
  have e3:(D:Int)=((D / gcd3 A B D:Nat):Int)*(gcd3 A B D:Nat):=by rw[<-Int.natCast_mul,e2]
  generalize (C / (gcd3 A B D:Nat):Int)=q at *
  generalize D / gcd3 A B D=m at *
  generalize gcd3 A B D=g at *
  rw[<-e1,e3]
  grind
 refine⟨⟨hne,h.re.trans (key d1),h.im.trans (key d2)⟩,?_⟩
 rw[w08 d1,w08 d2,Nat.gcd_div d1 d2,Nat.gcd_div (Nat.dvd_gcd d1 d2) d3]
 exact Nat.div_self hg
theorem Cq.rep(z:Cq):Rep z (z.re.num*z.im.den) (z.im.num*z.re.den) (z.re.den*z.im.den):=by
 have h1:=z.re.den_nz
 have h2:=z.im.den_nz
 have h3:=Nat.mul_ne_zero h1 h2
 refine⟨h3,?_,?_⟩
 . conv=>lhs; rw[<-Rat.mkRat_self z.re,Rat.mkRat_eq_div]
   rw[L03 h1 h3]
   rw[Int.natCast_mul]; grind
 . conv=>lhs; rw[<-Rat.mkRat_self z.im,Rat.mkRat_eq_div]
   rw[L03 h2 h3]
   rw[Int.natCast_mul]; grind
def Cq.g(z:Cq):Nat:=gcd3 (z.re.num*z.im.den) (z.im.num*z.re.den) (z.re.den*z.im.den)
def Cq.A(z:Cq):Int:=z.re.num*z.im.den / (z.g:Int)
def Cq.B(z:Cq):Int:=z.im.num*z.re.den / (z.g:Int)
def Cq.D(z:Cq):Nat:=z.re.den*z.im.den / z.g
theorem Cq.canon(z:Cq):K0k z z.A z.B z.D:=z.rep.canon
theorem Cq.D_pos(z:Cq):z.D≠0:=z.canon.rep.pos
theorem K0k.eqs{z:Cq}{A B:Int}{D:Nat}(h:K0k z A B D):z.A=A/\z.B=B/\z.D=D:=z.canon.inj h
theorem Rep.eqs{z:Cq}{A B:Int}{D:Nat}(h:Rep z A B D):z.A=A / (gcd3 A B D:Nat)/\z.B=B / (gcd3 A B D:Nat)/\z.D=D / gcd3 A B D:=h.canon.eqs
def Cq.sz(z:Cq):Nat:=max (bl z.A.natAbs) (max (bl z.B.natAbs) (bl z.D))
theorem p0h{a b:Nat}(h:a<=b):bl a<=bl b:=by
 rcases Nat.eq_zero_or_pos a with h0|h0
 . subst h0; simp[z0e]
 . have h1:=B0g (by omega:a≠0)
   have h2:=s0i b
   have:=(Nat.pow_lt_pow_iff_right (a:=2) (n:=bl a-1) (m:=bl b) (by omega)).1 (by omega)
   omega
theorem j03{a k:Nat}(h:a<2^k):bl a<=k:=by
 rcases Nat.eq_zero_or_pos a with h0|h0
 . subst h0; simp[z0e]
 . have h1:=B0g (by omega:a≠0)
   have:=(Nat.pow_lt_pow_iff_right (a:=2) (n:=bl a-1) (m:=k) (by omega)).1 (by omega)
   omega
theorem w0i{a k:Nat}(h:bl a<=k):a<2^k:=Nat.lt_of_lt_of_le (s0i a) (Nat.pow_le_pow_right (by omega) h)
theorem x0i(a b:Nat):bl (a*b)<=bl a+bl b:=by
 refine j03 ?_
 rw[Nat.pow_add]
 exact Nat.mul_lt_mul'' (s0i a) (s0i b)
theorem E16{a b k:Nat}(h1:bl a<=k)(h2:bl b<=k):bl (a+b)<=k+1:=by
 refine j03 ?_
 have:=w0i h1
 have:=w0i h2
 rw[Nat.pow_succ]; omega
theorem H0q{a b:Int}{k:Nat}(h1:bl a.natAbs<=k)(h2:bl b.natAbs<=k):bl (a+b).natAbs<=k+1 :=
 Nat.le_trans (p0h (Int.natAbs_add_le a b)) (E16 h1 h2)
theorem j15{a b:Int}{k:Nat}(h1:bl a.natAbs<=k)(h2:bl b.natAbs<=k):bl (a-b).natAbs<=k+1:=by
 rw[Int.sub_eq_add_neg]
 exact H0q h1 (by rw[Int.natAbs_neg]; exact h2)
theorem z0f(a b:Int):bl (a*b).natAbs<=bl a.natAbs+bl b.natAbs:=by rw[Int.natAbs_mul]; exact x0i _ _
theorem p0d{a k:Nat}(h:bl a<=32*k):wn a<=k:=y10 (w0i h)
theorem Rep.sz{z:Cq}{A B:Int}{D k:Nat}(h:Rep z A B D)(hA:bl A.natAbs<=k)(hB:bl B.natAbs<=k)(hD:bl D<=k):z.sz<=k:=by
 obtain⟨e1,e2,e3⟩:=h.eqs
 unfold Cq.sz
 rw[e1,e2,e3,w08 (t0i A B D),w08 (u0i A B D)]
 have a:=p0h (Nat.div_le_self A.natAbs (gcd3 A B D))
 have b:=p0h (Nat.div_le_self B.natAbs (gcd3 A B D))
 have c:=p0h (Nat.div_le_self D (gcd3 A B D))
 omega
theorem Cq.szA(z:Cq):bl z.A.natAbs<=z.sz:=Nat.le_max_left _ _
theorem Cq.szB(z:Cq):bl z.B.natAbs<=z.sz:=by unfold Cq.sz; omega
theorem Cq.szD(z:Cq):bl z.D<=z.sz:=by unfold Cq.sz; omega
theorem Rep.add{z w:Cq}{A B A' B':Int}{D D':Nat}(h:Rep z A B D)(h':Rep w A' B' D'):Rep (z+w) (A*D'+A'*D) (B*D'+B'*D) (D*D'):=by
 have n1:=i0b h.pos
 have n2:=i0b h'.pos
 refine⟨Nat.mul_ne_zero h.pos h'.pos,?_,?_⟩
 . rw[S0f,h.re,h'.re]; push_cast; grind
 . rw[T0f,h.im,h'.im]; push_cast; grind
theorem Rep.neg{z:Cq}{A B:Int}{D:Nat}(h:Rep z A B D):Rep (-z) (-A) (-B) D:=by
 refine⟨h.pos,?_,?_⟩
 . rw[d0e,h.re]; push_cast; grind
 . rw[e0e,h.im]; push_cast; grind
theorem Rep.mul{z w:Cq}{A B A' B':Int}{D D':Nat}(h:Rep z A B D)(h':Rep w A' B' D'):Rep (z*w) (A*A'-B*B') (A*B'+B*A') (D*D'):=by
 have n1:=i0b h.pos
 have n2:=i0b h'.pos
 refine⟨Nat.mul_ne_zero h.pos h'.pos,?_,?_⟩
 . rw[Y0m,h.re,h'.re,h.im,h'.im]; push_cast; grind
 . rw[Z0m,h.re,h'.re,h.im,h'.im]; push_cast; grind
def k03(V:View)(x:WhV)(n:Int):Prop:=x.neg=decide (n<0)/\L00 V x.mag n.natAbs
theorem k03.le{V V':View}{x:WhV}{n:Int}(hle:V.le V')(h:k03 V x n):k03 V' x n:=⟨h.1,h.2.le hle⟩
theorem k03.zero(V:View):k03 V (WhV.mk false (Sl.mk none 0 0)) 0:=⟨by simp,L00.zero V⟩
theorem k03.val{V:View}{x:WhV}{n:Int}(h:k03 V x n):n=if x.neg=true then -(n.natAbs:Int)else(n.natAbs:Int):=by
 rw[h.1]; simp only[decide_eq_true_eq]; split<;>omega
structure K05 (V:View) (x:NumV) (z:Cq):Prop where
 re:k03 V x.re z.A
 im:k03 V x.im z.B
 under:L00 V x.under (if z.D=1 then 0 else z.D)
structure QAt (V:View) (x:NumV) (z:Cq):Prop where
 re:k03 V x.re z.A
 im:k03 V x.im z.B
 under:L00 V x.under z.D
theorem K05.le{V V':View}{x:NumV}{z:Cq}(hle:V.le V')(h:K05 V x z):K05 V' x z:=⟨h.re.le hle,h.im.le hle,h.under.le hle⟩
theorem QAt.le{V V':View}{x:NumV}{z:Cq}(hle:V.le V')(h:QAt V x z):QAt V' x z:=⟨h.re.le hle,h.im.le hle,h.under.le hle⟩
theorem L00.len_zero{V:View}{s:Sl}{n:Nat}(h:L00 V s n):s.len=0↔n=0:=by
 rw[<-W05 (n:=n),wn,<-h.len]
theorem Rep.ofInt(n:Int):Rep ⟨(n:Rat),0⟩ n 0 1:=by
 refine⟨by omega,?_,?_⟩
 . rw[Rat.div_def]; simp; grind
 . rw[Rat.div_def]; simp
theorem n0a(n:Int):(Cq.mk (n:Rat) 0).A=n/\(Cq.mk (n:Rat) 0).B=0/\(Cq.mk (n:Rat) 0).D=1 :=
 K0k.eqs ⟨Rep.ofInt n,by simp⟩
theorem a0n:Cq.zero.A=0/\Cq.zero.B=0/\Cq.zero.D=1:=by
 have:=n0a 0
 simp only[Rat.intCast_zero]at this
 exact this
theorem K05.zero(V:View):K05 V (NumV.mk (WhV.mk false (Sl.mk none 0 0)) (WhV.mk false (Sl.mk none 0 0)) (Sl.mk none 0 0)) Cq.zero:=by
 obtain⟨h1,h2,h3⟩:=a0n
 refine⟨by rw[h1]; exact k03.zero V,by rw[h2]; exact k03.zero V,by rw[h3]; exact L00.zero V⟩
theorem F16:bl 1=1:=by decide
theorem f0e:Cq.zero.sz<=1:=by
 obtain⟨h1,h2,h3⟩:=a0n
 unfold Cq.sz; rw[h1,h2,h3]; simp[z0e,F16]
theorem U0f(z w:Cq):(z+w).sz<=z.sz+w.sz+1:=by
 have a1:=z.szA; have a2:=z.szB; have a3:=z.szD
 have b1:=w.szA; have b2:=w.szB; have b3:=w.szD
 refine(z.canon.rep.add w.canon.rep).sz ?_ ?_ ?_
 . refine H0q (Nat.le_trans (z0f _ _) ?_) (Nat.le_trans (z0f _ _) ?_)<;>simp only[Int.natAbs_natCast]<;>omega
 . refine H0q (Nat.le_trans (z0f _ _) ?_) (Nat.le_trans (z0f _ _) ?_)<;>simp only[Int.natAbs_natCast]<;>omega
 . exact Nat.le_trans (x0i _ _) (by omega)
theorem a0j(z w:Cq):(z*w).sz<=z.sz+w.sz+1:=by
 have a1:=z.szA; have a2:=z.szB; have a3:=z.szD
 have b1:=w.szA; have b2:=w.szB; have b3:=w.szD
 refine(z.canon.rep.mul w.canon.rep).sz ?_ ?_ ?_
 . exact j15 (Nat.le_trans (z0f _ _) (by omega)) (Nat.le_trans (z0f _ _) (by omega))
 . exact H0q (Nat.le_trans (z0f _ _) (by omega)) (Nat.le_trans (z0f _ _) (by omega))
 . exact Nat.le_trans (x0i _ _) (by omega)
theorem Cq.neg_eqs(z:Cq):(-z).A = -z.A/\(-z).B = -z.B/\(-z).D=z.D :=
 K0k.eqs ⟨z.canon.rep.neg,by rw[Int.natAbs_neg,Int.natAbs_neg]; exact z.canon.cop⟩
theorem W0f(z:Cq):(-z).sz=z.sz:=by
 obtain⟨h1,h2,h3⟩:=z.neg_eqs
 unfold Cq.sz; rw[h1,h2,h3,Int.natAbs_neg,Int.natAbs_neg]
theorem Cq.sub_eq(z w:Cq):z-w=z + -w:=Cq.ext' (by rw[W0m,S0f,d0e]; grind) (by rw[X0m,T0f,e0e]; grind)
theorem C12(z w:Cq):(z-w).sz<=z.sz+w.sz+1:=by
 rw[Cq.sub_eq,<-W0f w]; exact U0f z (-w)
theorem D12{z:Cq}:z.B=0↔z.im=0:=by
 have h:=z.canon.rep
 rw[h.im]
 constructor
 . intro e; rw[e]; simp[Rat.div_def]
 . intro e
   have hD:=i0b h.pos
   have:((z.B:Int):Rat)=0:=by
    have h2:=congrArg (·*(z.D:Rat)) e
    simp only[Rat.div_mul_cancel hD,Rat.zero_mul]at h2
    exact h2
   simpa using this
theorem P0n{A A':Int}{D D':Nat}(h:D≠0)(h':D'≠0):(A:Rat) / (D:Rat)<(A':Rat) / (D':Rat)↔A*D'<A'*D:=by
 have p:(0:Rat)<(D:Rat):=Rat.natCast_pos.2 (by omega)
 have p':(0:Rat)<(D':Rat):=Rat.natCast_pos.2 (by omega)
 rw[Rat.div_lt_iff p]
 have e:(A':Rat) / (D':Rat)*(D:Rat)=((A'*D:Int):Rat) / (D':Rat):=by push_cast; rw[Rat.div_def,Rat.div_def]; grind
 rw[e,Rat.lt_div_iff p']
 have e2:(A:Rat)*(D':Rat)=((A*D':Int):Rat):=by push_cast; rfl
 rw[e2]; exact Rat.intCast_lt_intCast
def cmpR(x y:Rat):Int:=if x<y then -1 else if x=y then 0 else 1
def cmpZ(x y:Int):Int:=if x<y then -1 else if x=y then 0 else 1
theorem b0v{x y:Int}(h:x<y):cmpZ x y = -1:=by unfold cmpZ; rw[if_pos h]
theorem c0v{x y:Int}(h:x=y):cmpZ x y=0:=by unfold cmpZ; rw[if_neg (by omega),if_pos h]
theorem d0v{x y:Int}(h:y<x):cmpZ x y=1:=by unfold cmpZ; rw[if_neg (by omega),if_neg (by omega)]
theorem B10{A A':Int}{D D':Nat}(h:D≠0)(h':D'≠0):cmpZ (A*D') (A'*D)=cmpR ((A:Rat) / (D:Rat)) ((A':Rat) / (D':Rat)):=by
 unfold cmpZ cmpR
 simp only[P0n h h',L03 h h']
def Cq.cmp(z w:Cq):Int:=if cmpR z.re w.re≠0 then cmpR z.re w.re else cmpR z.im w.im
theorem y0i(a:Addr)(m n:Nat):(a.add m).add n=a.add (m+n):=by
 by_cases h1:m=0<;>by_cases h2:n=0<;>simp[Addr.add,h1,h2,Nat.add_assoc]
theorem P0o{V:View}{b j:Nat}{cs:Array Value}(h:V b=some cs):V.load ((some (Addr.mk b 0 none)).map (·.add j))=cs[j]?:=by
 by_cases h1:j=0<;>simp[View.load,Addr.add,h1,h]
def y01{α:Type}(sz:Nat)(P:View->List Value->α->Prop)(V:View):List Value->List α->Prop
 | o,[]=>o=[]
 | o,z::zs=>∃x o',o=x++o'/\x.length=sz/\P V x z/\y01 sz P V o' zs
section
variable {α:Type} {sz:Nat} {P:View->List Value->α->Prop} {V V':View}
theorem y01.length:∀ {zs:List α} {o:List Value},y01 sz P V o zs->o.length=zs.length*sz
 | [],_,h=>by rw[show _=[]from h]; simp
 | z::zs,_,⟨x,o',e,hx,_,h⟩=>by rw[e,List.length_append,hx,h.length,List.length_cons,Nat.add_mul]; omega
theorem y01.imp{P':View->List Value->α->Prop}(hP:∀x z,P V x z->P' V' x z):∀ {zs:List α} {o:List Value},y01 sz P V o zs->y01 sz P' V' o zs
 | [],_,h=>h
 | _::_,_,⟨x,o',e,hx,p,h⟩=>⟨x,o',e,hx,hP _ _ p,h.imp hP⟩
theorem y01.append:∀ {zs zs':List α} {o o':List Value},y01 sz P V o zs->y01 sz P V o' zs'->y01 sz P V (o++o') (zs++zs')
 | [],_,_,_,h,h'=>by rw[show _=[]from h]; exact h'
 | _::_,_,_,_,⟨x,o1,e,hx,p,h⟩,h'=>⟨x,o1++_,by rw[e,List.append_assoc],hx,p,h.append h'⟩
theorem y01.one{x:List Value}{z:α}(hx:x.length=sz)(p:P V x z):y01 sz P V x [z]:=⟨x,[],by simp,hx,p,rfl⟩
theorem y01.replicate{x:List Value}{z:α}(hx:x.length=sz)(p:P V x z):∀n,y01 sz P V (List.replicate n x).flatten (List.replicate n z)
 | 0=>rfl
 | n+1=>⟨x,(List.replicate n x).flatten,by simp[List.replicate_succ],hx,p,y01.replicate hx p n⟩
theorem y01.get:∀ {zs:List α} {o:List Value},y01 sz P V o zs->∀ {i:Nat} {z:α},zs[i]?=some z ->
 ∃x,P V x z/\x.length=sz/\∀j v,x[j]?=some v->o[i*sz+j]?=some v
 | [],_,_,i,z,hi=>by simp at hi
 | z0::zs,_,⟨x,o',e,hx,p,h⟩,0,z,hi=>by
   simp at hi; subst hi
   refine⟨x,p,hx,λj v hj => ?_⟩
   have:j<x.length:=by
    rcases Nat.lt_or_ge j x.length with h|h
    . exact h
    . rw[List.getElem?_eq_none h]at hj; simp at hj
   rw[e,Nat.zero_mul,Nat.zero_add,List.getElem?_append_left this]; exact hj
 | z0::zs,_,⟨x,o',e,hx,p,h⟩,i+1,z,hi=>by
   simp at hi
   obtain⟨y,q,hy,hg⟩:=h.get hi
   refine⟨y,q,hy,λj v hj => ?_⟩
   rw[e,List.getElem?_append_right (by rw[hx,Nat.add_mul]; omega)]
   have:(i+1)*sz+j-x.length=i*sz+j:=by rw[hx,Nat.add_mul]; omega
   rw[this]; exact hg j v hj
theorem S0v{β:Type}:∀(vs a:List β) (b c:List β),b.length=vs.length->setL (a++b++c) a.length vs=a++vs++c
 | [], a, b, c, h => by have : b = [] := by simpa using h
                        subst this; simp[setL]
 | v::vs,a,[],c,h=>by simp at h
 | v::vs,a,b0::b,c,h=>by
   have h':b.length=vs.length:=by simpa using h
   unfold setL
   have e:(a++b0::b++c).set a.length v=(a++[v])++b++c:=by
    rw[List.append_assoc,List.set_append_right _ _ (Nat.le_refl _)]; simp
   rw[e]
   have e2:a.length+1=(a++[v]).length:=by simp
   rw[e2,S0v vs (a++[v]) b c h']; simp
theorem y01.set:∀ {zs:List α} {o:List Value},y01 sz P V o zs->∀ {i:Nat} {y:List Value} {z:α},i<zs.length->y.length=sz->P V y z ->
 ∀pre:List Value,∃o',setL (pre++o) (pre.length+i*sz) y=pre++o'/\y01 sz P V o' (zs.set i z)
 | [],_,_,i,_,_,hi,_,_,_=>by simp at hi
 | z0::zs,_,⟨x,o',e,hx,p,h⟩,0,y,z,hi,hy,q,pre=>by
   refine⟨y++o',?_,y,o',rfl,hy,q,h⟩
   rw[e,Nat.zero_mul,Nat.add_zero,<-List.append_assoc,S0v y pre x o' (by rw[hx,hy])]; simp
 | z0::zs,_,⟨x,o',e,hx,p,h⟩,i+1,y,z,hi,hy,q,pre=>by
   obtain⟨o2,e2,h2⟩:=h.set (i:=i) (by simpa using hi) hy q (pre++x)
   refine⟨x++o2,?_,x,o2,rfl,hx,p,h2⟩
   have e3:(pre++x).length+i*sz=pre.length+(i+1)*sz:=by rw[List.length_append,hx,Nat.add_mul]; omega
   rw[e,<-e3,<-List.append_assoc,e2,List.append_assoc]
theorem k0b{zs:List α}{o:List Value}(h:y01 sz P V o zs){i:Nat}{y:List Value}{z:α}(hi:i<zs.length)(hy:y.length=sz)(q:P V y z) :
 y01 sz P V (setL o (0+i*sz) y) (zs.set i z):=by
 obtain⟨o',e,h'⟩:=h.set hi hy q []
 simp only[List.nil_append,List.length_nil]at e
 rw[e]; exact h'
theorem y01.room{zs:List α}{o:List Value}(h:y01 sz P V o zs){i:Nat}(hi:i<zs.length):0+i*sz+sz<=o.length:=by
 rw[h.length]
 have:(i+1)*sz<=zs.length*sz:=Nat.mul_le_mul_right _ hi
 rw[Nat.add_mul]at this; omega
structure l01 (sz:Nat) (P:View->List Value->α->Prop) (V:View) (s:Sl) (zs:List α):Prop where
 len:s.len=zs.length
 cap:s.len<=s.cap
 some:zs≠[]->s.a.isSome=true
 cells:∃o,V.has s.a o/\y01 sz P V o zs
theorem l01.le(hP:∀x z,P V x z->P V' x z)(hle:V.le V'){s:Sl}{zs:List α}(h:l01 sz P V s zs):l01 sz P V' s zs:=by
 obtain⟨o,h1,h2⟩:=h.cells
 exact⟨h.len,h.cap,h.some,o,q08 hle h1,h2.imp hP⟩
theorem l01.nil:l01 sz P V (Sl.mk none 0 0) ([]:List α):=⟨rfl,Nat.le_refl _,by simp,[],by intro j v h; simp at h,rfl⟩
theorem l01.get{s:Sl}{zs:List α}(h:l01 sz P V s zs){t:Int}(h0:0<=t){z:α}(hz:zs[t.toNat]? = .some z) :
 ((0:Int)<=t/\t<(s.len:Nat)/\Option.isSome s.a=true) /\
 ∃x,P V x z/\x.length=sz/\V.has (Option.map (λq=>Addr.add q (Int.toNat t*sz)) s.a) x/\Option.isSome (Option.map (λq=>Addr.add q (Int.toNat t*sz)) s.a)=true:=by
 obtain⟨o,h1,h2⟩:=h.cells
 obtain⟨x,p,hx,hg⟩:=h2.get hz
 have hlt:t.toNat<zs.length:=by
  rcases Nat.lt_or_ge t.toNat zs.length with h|h
  . exact h
  . rw[List.getElem?_eq_none h]at hz; simp at hz
 have hne:zs≠[]:=by intro e; rw[e]at hlt; simp at hlt
 have hs:=h.some hne
 have hl:=h.len
 refine⟨⟨h0,by omega,hs⟩,x,p,hx,λj v hj => ?_,by simpa using hs⟩
 have:=h1 _ v (hg j v hj)
 rw[Option.map_map]
 have e:((λx:Addr=>x.add j)∘λq:Addr=>q.add (t.toNat*sz))=λq:Addr=>q.add (t.toNat*sz+j):=by
  funext a; exact y0i a _ _
 rw[e]; exact this
theorem l01.of_block{b c:Nat}{o o':List Value}{zs:List α}(hb:o++o'≠[]->V b = .some (o++o').toArray)(h:y01 sz P V o zs){n:Nat}(hn:n=zs.length)(hc:n<=c){a:Option Addr}
 (ha:c≠0->a = .some ⟨b,0,none⟩):l01 sz P V ⟨a,n,c⟩ zs:=by
 refine⟨hn,hc,λhne => ?_,o,λj v hj => ?_,h⟩
 . have:zs.length≠0:=by simpa using hne
   rw[ha (by omega)]; rfl
 . have hj':j<o.length:=by
     rcases Nat.lt_or_ge j o.length with h|h
     . exact h
     . rw[List.getElem?_eq_none h]at hj; simp at hj
   have hl:=h.length
   have hz:zs.length≠0:=by intro e; rw[e]at hl; omega
   have hne:o++o'≠[]:=by intro e; have:=congrArg List.length e; simp at this; simp[this]at hj'
   show V.load (a.map (·.add j)) = .some v
   rw[ha (by omega)]
   rw[P0o (hb hne),List.getElem?_toArray,List.getElem?_append_left hj']; exact hj
theorem n05.split{n cap:Nat}{o l:List Value}(h:n05 sz n cap o l):∃o',o=l++o':=⟨o.drop (n*sz),by rw[<-h.take,List.take_append_drop]⟩
theorem n05.nil:n05 sz 0 0 [] []:=⟨Nat.le_refl _,by simp,by simp⟩
theorem f0b{b n cap:Nat}{o l:List Value}{zs:List α}(hl:n05 sz n cap o l)(hb:o≠[]->V b = .some o.toArray)(h:y01 sz P V l zs)(hn:n=zs.length) :
 l01 sz P V ⟨lstA b cap,n,cap⟩ zs:=by
 obtain⟨o',e⟩:=hl.split
 refine l01.of_block (o:=l) (o':=o') (b:=b) (λhne => ?_) h hn hl.le (λhc=>by simp[lstA,hc])
 rw[<-e]; exact hb (by rw[e]; exact hne)
theorem G02{b n:Nat}{o:List Value}{zs:List α}(hb:V b = .some o.toArray)(h:y01 sz P V o zs)(hn:n=zs.length):l01 sz P V ⟨.some ⟨b,0,none⟩,n,n⟩ zs :=
 l01.of_block (o:=o) (o':=[]) (b:=b) (λ_=>by simpa using hb) h hn (Nat.le_refl _) (λ_=>rfl)
end
def numC(V:View)(x:List Value)(z:Cq):Prop:=∃n:NumV,x=n.val.cells.toList/\K05 V n z
theorem numC.le{V V':View}(hle:V.le V')(x:List Value)(z:Cq)(h:numC V x z):numC V' x z:=by
 obtain⟨n,e,hn⟩:=h; exact⟨n,e,hn.le hle⟩
def X08(V:View)(s:Sl)(zs:List Cq):Prop:=l01 5 numC V s zs
def x08(V:View)(o:List Value)(zs:List Cq):Prop:=y01 5 numC V o zs
theorem X08.le{V V':View}(hle:V.le V'){s:Sl}{zs:List Cq}(h:X08 V s zs):X08 V' s zs:=l01.le (numC.le hle) hle h
theorem x08.le{V V':View}(hle:V.le V'){o:List Value}{zs:List Cq}(h:x08 V o zs):x08 V' o zs:=y01.imp (numC.le hle) h
def nth(zs:List Cq)(i:Nat):Cq:=zs.getD i Cq.zero
theorem k15{zs:List Cq}{i:Nat}(h:i<zs.length):zs[i]?=some (nth zs i):=by simp[nth,List.getD,h]
theorem X08.get{V:View}{s:Sl}{zs:List Cq}(h:X08 V s zs){t:Int}(h0:0<=t)(h1:t.toNat<zs.length) :
 ((0:Int)<=t/\t<(s.len:Nat)/\Option.isSome s.a=true) /\
 ∃x:NumV,V.has (Option.map (λq=>Addr.add q (Int.toNat t*5)) s.a) x.val.cells.toList/\Option.isSome (Option.map (λq=>Addr.add q (Int.toNat t*5)) s.a)=true/\K05 V x (nth zs t.toNat):=by
 obtain⟨hb,x,⟨n,e,hn⟩,_,h1,h2⟩:=l01.get h h0 (k15 h1)
 exact⟨hb,n,e▸h1,h2,hn⟩
theorem x08.zeros(V:View)(n:Nat):x08 V ((List.replicate n [Value.bool false,Value.slice none 0 0,Value.bool false,Value.slice none 0 0,Value.slice none 0 0]).flatten) (List.replicate n Cq.zero) :=
 y01.replicate (x:=[Value.bool false,Value.slice none 0 0,Value.bool false,Value.slice none 0 0,Value.slice none 0 0]) rfl ⟨_,rfl,K05.zero V⟩ n
theorem x08.set{V:View}{o:List Value}{zs:List Cq}(h:x08 V o zs){i:Nat}(hi:i<zs.length){r:NumV}{z:Cq}(hr:K05 V r z) :
 x08 V (setL o (0+i*5) [.bool r.re.neg,r.re.mag.v,.bool r.im.neg,r.im.mag.v,r.under.v]) (zs.set i z):=k0b h hi rfl ⟨r,rfl,hr⟩
theorem x08.push{V:View}{o:List Value}{zs:List Cq}(h:x08 V o zs){r:NumV}{z:Cq}(hr:K05 V r z) :
 x08 V (o++[.bool r.re.neg,r.re.mag.v,.bool r.im.neg,r.im.mag.v,r.under.v]) (zs++[z]):=y01.append h (y01.one rfl ⟨r,rfl,hr⟩)
def Q0g(n k:Nat)(f:Nat->Cq):List Cq:=(List.range k).map f++List.replicate (n-k) Cq.zero
theorem e0v(n:Nat)(f:Nat->Cq):Q0g n 0 f=List.replicate n Cq.zero:=by simp[Q0g]
theorem A0y(n:Nat)(f:Nat->Cq):Q0g n n f=(List.range n).map f:=by simp[Q0g]
theorem z0i{n k:Nat}(h:k<=n)(f:Nat->Cq):(Q0g n k f).length=n:=by simp[Q0g]; omega
theorem B0y{n k:Nat}(h:k<n)(f:Nat->Cq):(Q0g n k f).set k (f k)=Q0g n (k+1) f:=by
 unfold Q0g
 rw[List.set_append_right _ _ (by simp)]
 simp only[List.length_map,List.length_range,Nat.sub_self]
 have:n-k=(n-(k+1))+1:=by omega
 rw[this,List.replicate_succ,List.set_cons_zero,List.range_succ,List.map_append]; simp
theorem f0v{n i:Nat}(h:i<n)(f:Nat->Cq):nth ((List.range n).map f) i=f i:=by simp[nth,List.getD,h]
theorem Q0o(k:Nat)(f:Nat->Cq):(List.range k).map f++[f k]=(List.range (k+1)).map f:=by rw[List.range_succ,List.map_append]; rfl
theorem Y0l(zs:List Cq):(List.range zs.length).map (nth zs)=zs:=by
 apply List.ext_getElem (by simp)
 intro i h1 h2
 simp[nth,List.getD,h2]
theorem J0j{P:Program}{f:FuncId}{args:Array Value}{ty:TypeId}{V:View}{zs:List Cq}(hz:zs≠[])
 (h:m0b P f args ty V λn cap l rest V'=>n=zs.length/\cap=n/\rest=[]/\x08 V' l zs) :
 a00 P f args V λv V'=>∃r:Sl,v=r.v/\X08 V' r zs:=by
 refine h.known.mono λv V' _ ⟨b,n,cap,l,rest,V1,hv,l1,hb,hn,hc,hr,hl⟩ => ?_
 subst hc; subst hr
 have hl0:l≠[]:=by
  intro e; subst e
  have h1:=y01.length hl
  have:zs.length≠0:=by simpa using hz
  simp at h1; omega
 refine⟨⟨lstA b cap,cap,cap⟩,hv,l01.of_block (o:=l) (o':=[]) (b:=b) (λ_=>by simpa using hb hl0) (hl.le l1) hn (Nat.le_refl _) (λhc=>by simp[lstA,hc])⟩
def B02(zs:List Cq)(a:Nat):List Cq:=(List.range ((zs.length+1-a) / 2)).map λk=>nth zs (a+2*k)
theorem U04(zs:List Cq)(a:Nat):(B02 zs a).length=(zs.length+1-a) / 2:=by simp[B02]
theorem l0g{zs:List Cq}{a k:Nat}(h:k<(zs.length+1-a) / 2):nth (B02 zs a) k=nth zs (a+2*k):=f0v h _
def o05:Nat->List Cq->List Cq->List Cq
 | 0,zs,_=>[nth zs 0]
 | m + 1, zs, ws => (List.range (2 ^ (m + 1))).map fun i =>
     if i<2^m then nth (o05 m (B02 zs 0) (B02 ws 0)) i+nth (o05 m (B02 zs 1) (B02 ws 0)) i*nth ws i
     else nth (o05 m (B02 zs 0) (B02 ws 0)) (i-2^m)-nth (o05 m (B02 zs 1) (B02 ws 0)) (i-2^m)*nth ws (i-2^m)
theorem C06(m:Nat)(zs ws:List Cq):(o05 m zs ws).length=2^m:=by cases m<;>simp[o05]
theorem Z0l:∀(m:Nat) (zs ws:List Cq) (S T:Nat),zs.length=2^m->ws.length=2^m->(∀i,i<2^m->(nth zs i).sz<=S)->(∀i,i<2^m->(nth ws i).sz<=T) ->
 ∀i,i<2^m->(nth (o05 m zs ws) i).sz+(T+2)<=2^m*(S+T+2)
 | 0,zs,ws,S,T,_,_,hS,_,i,hi=>by
   have h0:i=0:=by simpa using hi
   subst h0
   have h2:=hS 0 (by simp)
   have e:nth (o05 0 zs ws) 0=nth zs 0:=rfl
   rw[e]; omega
 | m+1,zs,ws,S,T,hz,hw,hS,hT,i,hi=>by
   have hp:2^(m+1)=2*2^m:=by rw[Nat.pow_succ]; omega
   have key:∀a,a<=1->∀k,k<2^m->(nth (o05 m (B02 zs a) (B02 ws 0)) k).sz+(T+2)<=2^m*(S+T+2):=by
    intro a ha
    refine Z0l m _ _ S T (by rw[U04]; omega) (by rw[U04]; omega) ?_ ?_
    . intro k hk
      rw[l0g (by omega)]
      exact hS _ (by omega)
    . intro k hk
      rw[l0g (by omega)]
      exact hT _ (by omega)
   have e:2^(m+1)*(S+T+2)=2*(2^m*(S+T+2)):=by rw[hp,Nat.mul_assoc]
   unfold o05
   rw[f0v hi,e]
   split
   . have h1:=key 0 (by omega) i (by assumption)
     have h2:=key 1 (by omega) i (by assumption)
     have h3:=hT i hi
     have h4:=a0j (nth (o05 m (B02 zs 1) (B02 ws 0)) i) (nth ws i)
     have h5:=U0f (nth (o05 m (B02 zs 0) (B02 ws 0)) i) (nth (o05 m (B02 zs 1) (B02 ws 0)) i*nth ws i)
     omega
   . have h1:=key 0 (by omega) (i-2^m) (by omega)
     have h2:=key 1 (by omega) (i-2^m) (by omega)
     have h3:=hT (i-2^m) (by omega)
     have h4:=a0j (nth (o05 m (B02 zs 1) (B02 ws 0)) (i-2^m)) (nth ws (i-2^m))
     have h5:=C12 (nth (o05 m (B02 zs 0) (B02 ws 0)) (i-2^m)) (nth (o05 m (B02 zs 1) (B02 ws 0)) (i-2^m)*nth ws (i-2^m))
     omega
def P0e(h k:Nat)(a b:Nat->Cq):List Cq:=(List.range (2*h)).map λi=>if i<h then(if i<k then a i else Cq.zero)else(if i-h<k then b (i-h)else Cq.zero)
theorem g0v(h:Nat)(a b:Nat->Cq):P0e h 0 a b=List.replicate (2*h) Cq.zero:=by
 apply List.ext_getElem (by simp[P0e])
 intro i h1 h2
 simp[P0e]
theorem C0y{h k:Nat}(hk:k<h)(a b:Nat->Cq):((P0e h k a b).set k (a k)).set (k+h) (b k)=P0e h (k+1) a b:=by
 apply List.ext_getElem (by simp[P0e])
 intro i h1 h2
 simp only[P0e,List.getElem_set,List.getElem_map,List.getElem_range]
 by_cases e1:k+h=i
 . subst e1
   have:¬k+h<h:=by omega
   simp[this]
 . by_cases e2:k=i
   . subst e2
     have e4:h≠0:=by omega
     simp[e4,hk]
   . simp only[e1,e2,if_false]
     by_cases e3:i<h
     . have:(i<k+1)↔i<k:=by omega
       simp[e3,this]
     . have:(i-h<k+1)↔i-h<k:=by omega
       simp[e3,this]
def q0h(n:Nat):Cq:=⟨((1:Int):Rat) / ((n:Int):Rat),((0:Int):Rat) / ((n:Int):Rat)⟩
theorem T0v{n:Nat}(h:1<=n)(hn:n<=64):(q0h n).sz<=8:=by
 have hr:Rep (q0h n) 1 0 n:=⟨by omega,by simp only[q0h]; push_cast; rfl,by simp only[q0h]; push_cast; rfl⟩
 refine hr.sz ?_ ?_ ?_
 . exact j03 (by decide)
 . exact j03 (by decide)
 . exact j03 (by omega)
section
variable {α:Type} {sz:Nat} {P:View->List Value->α->Prop}
theorem y01.drop{V:View}:∀ {zs:List α} {o:List Value} (k:Nat),y01 sz P V o zs->y01 sz P V (o.drop (k*sz)) (zs.drop k)
 | [],o,k,h=>by rw[show o=[]from h]; simp; rfl
 | z::zs,o,0,h=>by simpa using h
 | z::zs,_,k+1,⟨x,o',e,hx,p,h⟩=>by
   rw[e,Nat.add_mul,Nat.one_mul,Nat.add_comm,<-hx,List.drop_length_add_append,hx]
   exact h.drop k
theorem l01.drop{V:View}{s:Sl}{zs:List α}(h:l01 sz P V s zs){k:Nat}(hk:k<=zs.length) :
 l01 sz P V (Sl.mk (if s.cap=k then s.a else Option.map (λq=>Addr.add q (k*sz)) s.a) (s.len-k) (s.cap-k)) (zs.drop k):=by
 have h1:=h.len
 have h2:=h.cap
 obtain⟨o,h3,h4⟩:=h.cells
 refine⟨by simp only[List.length_drop]; omega,by simp only; omega,λhne => ?_,o.drop (k*sz),?_,h4.drop k⟩
 . have hz:zs≠[]:=λe=>by subst e; simp at hne
   have:=h.some hz
   show Option.isSome (if s.cap=k then s.a else Option.map (λq=>Addr.add q (k*sz)) s.a)=true
   split
   . exact this
   . simpa using this
 . intro j v hj
   show V.load (Option.map (·.add j) (if s.cap=k then s.a else Option.map (λq=>Addr.add q (k*sz)) s.a))=_
   rw[List.getElem?_drop]at hj
   by_cases e:s.cap=k
   . exfalso
     have hl:=h4.length
     have:zs.length*sz=k*sz:=by rw[show zs.length=k by omega]
     have hlt:k*sz+j<o.length:=by
      rcases Nat.lt_or_ge (k*sz+j) o.length with g|g
      . exact g
      . rw[List.getElem?_eq_none g]at hj; simp at hj
     omega
   . rw[if_neg e,Option.map_map]
     have e2:((λx:Addr=>x.add j)∘λq:Addr=>q.add (k*sz))=λq:Addr=>q.add (k*sz+j):=by
      funext a; exact y0i a _ _
     rw[e2]
     exact h3 _ v hj
end
def optG{α:Type}(P:View->List Value->α->Prop)(V:View)(x:List Value)(o:Option α):Prop:=∀z,o=some z->P V x z
def OptG{α:Type}(sz:Nat)(P:View->List Value->α->Prop)(V:View)(o:List Value)(n:Nat)(f:Nat->Option α):Prop:=y01 sz (optG P) V o ((List.range n).map f)
section
variable {α:Type} {sz:Nat} {P:View->List Value->α->Prop} {V V':View} {o:List Value} {n:Nat} {f g:Nat->Option α}
theorem OptG.le(hP:∀x z,P V x z->P V' x z)(h:OptG sz P V o n f):OptG sz P V' o n f:=y01.imp (P:=optG P) (V:=V) (P':=optG P) (V':=V') (λx _ hx z e=>hP x z (hx z e)) h
theorem OptG.room(h:OptG sz P V o n f){i:Nat}(hi:i<n):0+i*sz+sz<=o.length:=y01.room h (by simpa using hi)
theorem OptG.congr(h:OptG sz P V o n f)(e:∀p,p<n->f p=g p):OptG sz P V o n g:=by
 unfold OptG
 have:(List.range n).map g=(List.range n).map f:=List.map_congr_left λp hp=>(e p (by simpa using hp)).symm
 rw[this]; exact h
theorem OptG.zeros(P:View->List Value->α->Prop)(V:View)(n:Nat){z0:List Value}(h0:z0.length=sz):OptG sz P V ((List.replicate n z0).flatten) n (λ_=>none):=by
 unfold OptG
 have e:(List.range n).map (λ_=>(none:Option α))=List.replicate n none:=by
  apply List.ext_getElem (by simp)
  intro i h1 h2; simp
 rw[e]
 exact y01.replicate (x:=z0) h0 (by intro z hz; simp at hz) n
theorem OptG.set(h:OptG sz P V o n f){i:Nat}(hi:i<n){y:List Value}(hy:y.length=sz){z:α}(hz:P V y z):OptG sz P V (setL o (0+i*sz) y) n (λp=>if p=i then some z else f p):=by
 have h1:=k0b h (i:=i) (z:=some z) (by simpa using hi) hy (by intro z' e; cases e; exact hz)
 unfold OptG
 have e:(List.range n).map (λp=>if p=i then some z else f p)=((List.range n).map f).set i (some z):=by
  apply List.ext_getElem (by simp)
  intro j h1 h2
  rw[List.getElem_set]
  simp only[List.getElem_map,List.getElem_range]
  by_cases c:j=i
  . subst c; simp
  . have c':¬i=j:=λx=>c x.symm
    simp[c,c']
 rw[e]; exact h1
theorem a0m:∀ {zs:List α} {o:List Value},y01 sz (optG P) V o (zs.map some)->y01 sz P V o zs
 | [],_,h=>h
 | _::_,_,⟨x,o',e,hx,p,h⟩=>⟨x,o',e,hx,p _ rfl,a0m h⟩
theorem OptG.all{F:Nat->α}(h:OptG sz P V o n f)(e:∀p,p<n->f p=some (F p)):y01 sz P V o ((List.range n).map F):=by
 unfold OptG at h
 have h2:(List.range n).map f=((List.range n).map F).map some:=by
  rw[List.map_map]
  exact List.map_congr_left λp hp=>e p (by simpa using hp)
 rw[h2]at h
 exact a0m h
theorem OptG.get(h:OptG sz P V o n f){i:Nat}(hi:i<n){z:α}(hz:f i=some z):∃x,P V x z/\x.length=sz/\(o.drop (0+i*sz)).take sz=x:=by
 obtain⟨x,p,hx,hg⟩:=y01.get h (i:=i) (z:=some z) (by simp[hi,hz])
 refine⟨x,p z rfl,hx,?_⟩
 have hl:=h.room hi
 apply List.ext_getElem?
 intro j
 rcases Nat.lt_or_ge j sz with hj|hj
 . have hjx:j<x.length:=by omega
   have:=hg j x[j] (by simp[hjx])
   rw[List.getElem?_take_of_lt hj,List.getElem?_drop,Nat.zero_add,this]
   simp[hjx]
 . rw[List.getElem?_eq_none (by simp; omega),List.getElem?_eq_none (by omega)]
end
def seqG{α:Type}(F:Nat->α)(k p:Nat):Option α:=if p<k then some (F p)else none
theorem C10{α:Type}(F:Nat->α)(p:Nat):seqG F 0 p=none:=by simp[seqG]
theorem Y08{α:Type}(F:Nat->α)(k p:Nat):(if p=k then some (F k)else seqG F k p)=seqG F (k+1) p:=by
 unfold seqG
 by_cases c:p=k
 . subst c; simp
 . rw[if_neg c]
   by_cases c2:p<k
   . rw[if_pos c2,if_pos (by omega)]
   . rw[if_neg c2,if_neg (by omega)]
theorem F07{α:Type}{F:Nat->α}{n p:Nat}(h:p<n):seqG F n p=some (F p):=if_pos h
theorem OptG.start{α:Type}{sz:Nat}(P:View->List Value->α->Prop)(V:View)(n:Nat)(F:Nat->α){z0:List Value}(h0:z0.length=sz):OptG sz P V ((List.replicate n z0).flatten) n (seqG F 0) :=
 (OptG.zeros P V n h0).congr λp _=>(C10 F p).symm
theorem OptG.next{α:Type}{sz:Nat}{P:View->List Value->α->Prop}{V:View}{o:List Value}{n k:Nat}{F:Nat->α}(h:OptG sz P V o n (seqG F k))(hk:k<n){y:List Value}(hy:y.length=sz)(hz:P V y (F k)):OptG sz P V (setL o (0+k*sz) y) n (seqG F (k+1)) :=
 (h.set hk hy hz).congr λp _=>Y08 F k p
section
variable {P:View->List Value->Cq->Prop} {V V':View} {o:List Value} {n:Nat} {f g:Nat->Option Cq}
end
def modB(by':Int)(n:Nat):Nat:=(by'%(n:Int)).toNat
theorem p0j(b:Int){n:Nat}(h:0<n):modB b n<n:=by
 have h1:=Int.emod_nonneg b (b:=(n:Int)) (by omega)
 have h2:=Int.emod_lt_of_pos b (b:=(n:Int)) (by omega)
 unfold modB; omega
def preP(n b p:Nat):Nat:=if b<=p then p-b else p+n-b
theorem D10{n b p k:Nat}(hb:b<n)(hp:p<n)(hk:k<n):preP n b p=k↔p=(k+b)%n:=by
 have e:(k+b)%n=if k+b<n then k+b else k+b-n:=by
  split
  . exact Nat.mod_eq_of_lt (by omega)
  . rw[Nat.mod_eq_sub_mod (by omega),Nat.mod_eq_of_lt (by omega)]
 rw[e]; unfold preP
 split<;>split<;>omega
theorem E10{n b p:Nat}(hb:b<n)(hp:p<n):preP n b p<n:=by unfold preP; split<;>omega
theorem D0y{n k:Nat}(b:Int)(hk:k<n)(hn:n<=2^40):Int.tmod (IntKind.i64.wrap ((IntKind.i64.wrap ((k:Int)+(Int.tmod b (n:Int))))+(n:Int))) (n:Int)=(((k+modB b n)%n:Nat):Int):=by
 have h0:(0:Int)<n:=by omega
 have h1:=Int.emod_nonneg b (b:=(n:Int)) (by omega)
 have h2:=Int.emod_lt_of_pos b h0
 have hb:=p0j b (n:=n) (by omega)
 have t1:Int.tmod b (n:Int)=(modB b n:Int)\/Int.tmod b (n:Int)=(modB b n:Int)-n:=by
  rw[Int.tmod_eq_emod]
  unfold modB
  split<;>omega
 have e:∀m:Nat,m<n->(((k:Int)+(m:Int))%(n:Int))=(((k+m)%n:Nat):Int):=λm _=>by rw[<-Int.natCast_add]; rfl
 rcases t1 with t|t<;>rw[t]
 . rw[i64w (n:=(k:Int)+_) (by omega) (by omega),i64w (by omega) (by omega),Int.tmod_eq_emod_of_nonneg (by omega),Int.add_emod_right]
   exact e _ hb
 . rw[i64w (n:=(k:Int)+_) (by omega) (by omega),i64w (by omega) (by omega),Int.tmod_eq_emod_of_nonneg (by omega),show(k:Int)+((modB b n:Int)-n)+n=(k:Int)+(modB b n:Int)by omega]
   exact e _ hb
theorem F10{n k:Nat}(b:Int)(hk:k<n)(hn:n<=2^40) :
 ((decide (((Int.tmod b (n:Int)):Int)<0))=true->Int.tmod (IntKind.i64.wrap ((k:Int)+(IntKind.i64.wrap ((Int.tmod b (n:Int))+(n:Int))))) (n:Int)=(((k+modB b n)%n:Nat):Int)) /\
 ((decide (((Int.tmod b (n:Int)):Int)<0))=false->Int.tmod (IntKind.i64.wrap ((k:Int)+(Int.tmod b (n:Int)))) (n:Int)=(((k+modB b n)%n:Nat):Int)):=by
 have h0:(0:Int)<n:=by omega
 have h1:=Int.emod_nonneg b (b:=(n:Int)) (by omega)
 have h2:=Int.emod_lt_of_pos b h0
 have hb:=p0j b (n:=n) (by omega)
 have t1:Int.tmod b (n:Int)=(modB b n:Int)\/Int.tmod b (n:Int)=(modB b n:Int)-n:=by
  rw[Int.tmod_eq_emod]
  unfold modB
  split<;>omega
 have e:∀m:Nat,m<n->(((k:Int)+(m:Int))%(n:Int))=(((k+m)%n:Nat):Int):=λm _=>by rw[<-Int.natCast_add]; rfl
 constructor
 . intro h
   simp only[decide_eq_true_eq]at h
   rcases t1 with t|t<;>rw[t]at h ⊢
   . omega
   . rw[i64w (n:=(modB b n:Int)-n+n) (by omega) (by omega),i64w (by omega) (by omega),Int.tmod_eq_emod_of_nonneg (by omega),show(k:Int)+((modB b n:Int)-n+n)=(k:Int)+(modB b n:Int)by omega]
     exact e _ hb
 . intro h
   simp only[decide_eq_false_iff_not]at h
   rcases t1 with t|t<;>rw[t]at h ⊢
   . rw[i64w (by omega) (by omega),Int.tmod_eq_emod_of_nonneg (by omega)]
     exact e _ hb
   . omega
theorem m15{n i j:Nat}(hi:i<n)(hj:j<n)(hn:n<=2^40):Int.tmod (IntKind.i64.wrap ((IntKind.i64.wrap ((j:Int)-(i:Int)))+(n:Int))) (n:Int)=(((j+n-i)%n:Nat):Int):=by
 rw[i64w (n:=(j:Int)-i) (by omega) (by omega),i64w (by omega) (by omega),Int.tmod_eq_emod_of_nonneg (by omega),show(j:Int)-i+n=((j+n-i:Nat):Int)by omega]; rfl
theorem j13{n i j:Nat}(hi:i<n)(_:j<n):(j+modB (-(i:Int)) n)%n=(j+n-i)%n:=by
 have h:modB (-(i:Int)) n=(n-i)%n:=by
  unfold modB
  by_cases h0:i=0
  . subst h0; simp
  . have e:(-(i:Int))%(n:Int)=((n-i:Nat):Int):=by
      rw[<-Int.add_emod_right,Int.emod_eq_of_lt (by omega) (by omega)]; omega
    rw[e,Int.toNat_natCast,Nat.mod_eq_of_lt (by omega)]
 rw[h,Nat.add_mod_mod]
 congr 1; omega
def infR:Nat:=9218868437227405312
def rm(r:Nat):Nat:=if r<2^52 then r else(2^52+r%2^52)*2^(r / 2^52-1)
theorem q0d{m e:Nat}(h:(e=0\/2^52<=m)/\m<=2^53):rm (e*2^52+m)=m*2^e:=by
 obtain⟨h1,h2⟩:=h
 unfold rm
 by_cases c:m<2^52
 . have:e=0:=by omega
   subst this
   rw[if_pos (by omega)]; simp
 . rw[if_neg (by omega)]
   by_cases c2:m<2^53
   . have e1:(e*2^52+m) / 2^52=e+1:=by omega
     have e2:(e*2^52+m)%2^52=m-2^52:=by omega
     rw[e1,e2]
     have:2^52+(m-2^52)=m:=by omega
     rw[this,Nat.add_sub_cancel]
   . have hm:m=2^53:=by omega
     subst hm
     have e1:(e*2^52+2^53) / 2^52=e+2:=by omega
     have e2:(e*2^52+2^53)%2^52=0:=by omega
     rw[e1,e2]
     have e3:e+2-1=e+1:=by omega
     have e4:2^(e+1)=2^e*2:=Nat.pow_succ 2 e
     rw[e3,e4]
     generalize 2^e=x
     omega
theorem S0o(r:Nat):∃m,r=(r / 2^52-1)*2^52+m/\(r / 2^52-1=0\/2^52<=m)/\m<2^53:=by
 refine⟨r-(r / 2^52-1)*2^52,?_⟩
 omega
theorem G10(r:Nat):rm (r+1)=rm r+2^(r / 2^52-1):=by
 obtain⟨m,h1,h2,h3⟩:=S0o r
 generalize r / 2^52-1=e at h1 h2
 subst h1
 rw[Nat.add_assoc,q0d ⟨by omega,by omega⟩,q0d ⟨by omega,by omega⟩,Nat.add_mul,Nat.one_mul]
theorem b0m{a b:Nat}(h:a<b):rm a<rm b:=by
 obtain⟨d,rfl⟩:∃d,b=a+1+d:=⟨b-(a+1),by omega⟩
 induction d with
 | zero=>rw[Nat.add_zero,G10]; have:0<2^(a / 2^52-1):=Nat.pow_pos (by omega); omega
 | succ d ih =>
   rw[<-Nat.add_assoc,G10]
   have:=ih (by omega)
   have h2:0<2^((a+1+d) / 2^52-1):=Nat.pow_pos (by omega)
   omega
theorem A0f{a b:Nat}:rm a<rm b↔a<b:=by
 refine⟨λh => ?_,b0m⟩
 rcases Nat.lt_or_ge a b with c|c
 . exact c
 . rcases Nat.eq_or_lt_of_le c with c|c
   . subst c; omega
   . have:=b0m c; omega
theorem B0f{a b:Nat}:rm a<=rm b↔a<=b:=by
 rw[<-Nat.not_lt,<-Nat.not_lt,A0f]
theorem G16{a b:Nat}(h:rm a=rm b):a=b:=by
 have h1:=A0f (a:=a) (b:=b)
 have h2:=A0f (a:=b) (b:=a)
 omega
theorem q0j:rm 0=0:=by decide
theorem H10{a:Nat}(h:0<a):0<rm a:=by have:=b0m h; rw[q0j]at this; exact this
theorem c0m:Ieee.double.infRung=infR:=by decide
theorem C0f:Ieee.double.binade=2^52:=rfl
theorem I0q:Ieee.double.signWeight=2^63:=rfl
theorem m0g:Ieee.double.leastPlace = -1074:=by decide
def okW(w:Nat):Prop:=w<2^64/\w%2^63<=infR
instance (w:Nat):Decidable (okW w):=inferInstanceAs (Decidable (_/\_))
def finW(w:Nat):Prop:=w<2^64/\w%2^63<infR
theorem k13{w:Nat}(h:w%2^63<infR) :
 ∃m e:Nat,Ieee.double.read w = .number (w / 2^63%2==1) m (-1074+(e:Int))/\rm (w%2^63)=m*2^e/\((e=0\/2^52<=m)/\m<2^53)/\w%2^63=e*2^52+m:=by
 unfold Ieee.Format.read
 simp only[C0f,I0q,c0m,m0g]
 generalize w%2^63=r at h
 by_cases c:r<2^52
 . rw[if_pos c]
   refine⟨r,0,by simp,?_,⟨by omega,by omega⟩,by omega⟩
   unfold rm; rw[if_pos c]; omega
 . rw[if_neg c,if_pos h]
   refine⟨2^52+r%2^52,r / 2^52-1,rfl,?_,⟨by omega,by omega⟩,by omega⟩
   unfold rm; rw[if_neg c]
theorem W0k{w:Nat}(h:w%2^63=infR):Ieee.double.read w = .infinity (w / 2^63%2==1):=by
 unfold Ieee.Format.read
 simp only[C0f,I0q,c0m,m0g,h]
 rw[if_neg (by decide),if_neg (by decide),if_pos trivial]
theorem m13{w:Nat}(h:infR<w%2^63):∃s f,Ieee.double.read w = .nan s f:=by
 unfold Ieee.Format.read
 simp only[C0f,I0q,c0m,m0g]
 have:2^52<=infR:=by decide
 rw[if_neg (by omega),if_neg (by omega),if_neg (by omega)]
 exact⟨_,_,rfl⟩
def key(w:Nat):Int:=if w<2^63 then(w:Int)else -((w-2^63:Nat):Int)
def kz(k:Int):Int:=if k<0 then -(rm k.natAbs:Int)else(rm k.natAbs:Int)
theorem n15{a b:Int}(h:a<b):kz a<kz b:=by
 unfold kz
 split<;>split
 . have:=b0m (a:=b.natAbs) (b:=a.natAbs) (by omega); omega
 . have:=H10 (a:=a.natAbs) (by omega); omega
 . omega
 . have:=b0m (a:=a.natAbs) (b:=b.natAbs) (by omega); omega
theorem N0s{a b:Int}:kz a<kz b↔a<b:=by
 refine⟨λh => ?_,n15⟩
 rcases Int.lt_or_le a b with c|c
 . exact c
 . rcases Int.lt_or_eq_of_le c with c|c
   . have:=n15 c; omega
   . subst c; omega
theorem A14(k:Int):kz (-k) = -kz k:=by
 unfold kz
 rw[Int.natAbs_neg]
 by_cases c:k=0
 . subst c; simp[q0j]
 . split<;>split<;>omega
theorem d0m{w:Nat}(h:w<2^64):(w / 2^63%2==1)=decide (2^63<=w):=by
 by_cases c:w<2^63
 . have:w / 2^63=0:=by omega
   rw[this,decide_eq_false (by omega)]; rfl
 . have:w / 2^63=1:=by omega
   rw[this,decide_eq_true (by omega)]; rfl
theorem J0q{w:Nat}(h:w<2^64):(key w).natAbs=w%2^63:=by
 unfold key; split<;>omega
theorem I10{a b c d:Int}(h1:a<b↔c<d)(h2:b<a↔d<c):compare a b=compare c d:=by
 show compareOfLessAndEq a b=compareOfLessAndEq c d
 unfold compareOfLessAndEq
 by_cases x:a<b
 . rw[if_pos x,if_pos (h1.1 x)]
 . rw[if_neg x,if_neg (λy=>x (h1.2 y))]
   by_cases y:a=b
   . rw[if_pos y,if_pos (by omega)]
   . rw[if_neg y,if_neg (by omega)]
theorem c0k{s:Bool}{m u e g:Nat}(h:u+g=e):Ieee.signed s m u*((2^g:Nat):Int)=if s then -((m*2^e:Nat):Int)else((m*2^e:Nat):Int):=by
 unfold Ieee.signed
 rw[Nat.shiftLeft_eq]
 have:m*2^e=m*2^u*2^g:=by rw[<-h,Nat.pow_add,Nat.mul_assoc]
 rw[this]
 cases s<;>simp[Int.neg_mul]
theorem K0q{w:Nat}(h:finW w):∃m e:Nat,Ieee.double.read w = .number (decide (2^63<=w)) m (-1074+(e:Int))/\(if decide (2^63<=w)=true then -((m*2^e:Nat):Int)else((m*2^e:Nat):Int))=kz (key w):=by
 obtain⟨m,e,h1,h2,_⟩:=k13 h.2
 rw[d0m h.1]at h1
 refine⟨m,e,h1,?_⟩
 rw[<-h2]
 unfold kz
 rw[J0q h.1]
 by_cases c:2^63<=w
 . rw[if_pos (by simpa using c)]
   by_cases z:key w<0
   . rw[if_pos z]
   . rw[if_neg z]
     have:w%2^63=0:=by unfold key at z; split at z<;>omega
     rw[this,q0j]; rfl
 . rw[if_neg (by simpa using c),if_neg (by unfold key; rw[if_pos (by omega)]; omega)]
theorem L0q{w:Nat}(h:okW w)(hi:w%2^63=infR):key w=if decide (2^63<=w)=true then -(infR:Int)else(infR:Int):=by
 obtain⟨h1,h2⟩:=h
 by_cases c:2^63<=w
 . rw[decide_eq_true c,if_pos rfl]
   unfold key infR at *
   rw[if_neg (by omega)]; omega
 . rw[decide_eq_false c,if_neg (by simp)]
   unfold key infR at *
   rw[if_pos (by omega)]; omega
theorem J10{w:Nat}(h:finW w) : -(infR:Int)<key w/\key w<(infR:Int):=by
 obtain⟨h1,h2⟩:=h
 unfold key infR at *
 split<;>omega
theorem okW.cases{w:Nat}(h:okW w):finW w\/w%2^63=infR:=by
 rcases Nat.lt_or_ge (w%2^63) infR with c|c
 . exact .inl ⟨h.1,c⟩
 . exact .inr (by have:=h.2; omega)
theorem U0b{x y:Nat}(hx:okW x)(hy:okW y):FloatKind.f64.format.order x y=some (compare (key x) (key y)):=by
 show(Ieee.double.read x).order (Ieee.double.read y)=_
 have hI:(0:Int)<(infR:Int):=by decide
 rcases hx.cases with fx|ix<;>rcases hy.cases with fy|iy
 . obtain⟨m,e,h1,h2⟩:=K0q fx
   obtain⟨n,g,h3,h4⟩:=K0q fy
   rw[h1,h3]
   simp only[Ieee.Datum.order]
   have b1:(-1074+(e:Int)-min (-1074+(e:Int)) (-1074+(g:Int))).toNat+min e g=e:=by omega
   have b2:(-1074+(g:Int)-min (-1074+(e:Int)) (-1074+(g:Int))).toNat+min e g=g:=by omega
   have s1:=c0k (s:=decide (2^63<=x)) (m:=m) b1
   have s2:=c0k (s:=decide (2^63<=y)) (m:=n) b2
   rw[h2]at s1
   rw[h4]at s2
   have hp:(0:Int)<((2^min e g:Nat):Int):=by have:0<2^min e g:=Nat.pow_pos (by omega); omega
   congr 1
   refine I10 ?_ ?_
   . refine Iff.trans ?_ N0s
     rw[<-s1,<-s2]; exact(Int.mul_lt_mul_right hp).symm
   . refine Iff.trans ?_ N0s
     rw[<-s1,<-s2]; exact(Int.mul_lt_mul_right hp).symm
 . obtain⟨m,e,h1,h2⟩:=K0q fx
   have k:=J10 fx
   rw[h1,W0k iy,d0m hy.1,L0q hy iy]
   simp only[Ieee.Datum.order]
   cases decide (2^63<=y)
   . simp only[Bool.false_eq_true,if_false]
     congr 1
     show _=compareOfLessAndEq _ _
     unfold compareOfLessAndEq; rw[if_pos (by omega)]
   . simp only[if_true]
     congr 1
     show _=compareOfLessAndEq _ _
     unfold compareOfLessAndEq; rw[if_neg (by omega),if_neg (by omega)]
 . obtain⟨m,e,h1,h2⟩:=K0q fy
   have k:=J10 fy
   rw[h1,W0k ix,d0m hx.1,L0q hx ix]
   simp only[Ieee.Datum.order]
   cases decide (2^63<=x)
   . simp only[Bool.false_eq_true,if_false]
     congr 1
     show _=compareOfLessAndEq _ _
     unfold compareOfLessAndEq; rw[if_neg (by omega),if_neg (by omega)]
   . simp only[if_true]
     congr 1
     show _=compareOfLessAndEq _ _
     unfold compareOfLessAndEq; rw[if_pos (by omega)]
 . rw[W0k ix,W0k iy,d0m hx.1,d0m hy.1,L0q hx ix,L0q hy iy]
   simp only[Ieee.Datum.order]
   cases decide (2^63<=x)<;>cases decide (2^63<=y)<;>decide
theorem s0h{x y:Nat}(h:infR<x%2^63):FloatKind.f64.format.order x y=none:=by
 show(Ieee.double.read x).order (Ieee.double.read y)=_
 obtain⟨s,f,e⟩:=m13 h
 rw[e]; rfl
theorem B14{x y:Nat}(hx:okW x)(hy:okW y):(FloatKind.f64.format.order x y==some .lt)=decide (key x<key y):=by
 rw[U0b hx hy]
 show(some (compareOfLessAndEq _ _)==_)=_
 unfold compareOfLessAndEq
 by_cases c:key x<key y
 . rw[if_pos c,decide_eq_true c]; rfl
 . rw[if_neg c,decide_eq_false c]; split<;>rfl
theorem K10{x y:Nat}(hx:okW x)(hy:okW y):(FloatKind.f64.format.order x y==some .gt)=decide (key y<key x):=by
 rw[U0b hx hy]
 show(some (compareOfLessAndEq _ _)==_)=_
 unfold compareOfLessAndEq
 by_cases c:key x<key y
 . rw[if_pos c,decide_eq_false (by omega)]; rfl
 . rw[if_neg c]
   by_cases c2:key x=key y
   . rw[if_pos c2,decide_eq_false (by omega)]; rfl
   . rw[if_neg c2,decide_eq_true (by omega)]; rfl
theorem e0m{x y:Nat}(hx:okW x)(hy:okW y):(FloatKind.f64.format.order x y==some .eq)=decide (key x=key y):=by
 rw[U0b hx hy]
 show(some (compareOfLessAndEq _ _)==_)=_
 unfold compareOfLessAndEq
 by_cases c:key x<key y
 . rw[if_pos c,decide_eq_false (by omega)]; rfl
 . rw[if_neg c]
   by_cases c2:key x=key y
   . rw[if_pos c2,decide_eq_true c2]; rfl
   . rw[if_neg c2,decide_eq_false c2]; rfl
theorem H16{x y:Nat}(hx:okW x)(hy:okW y):((FloatKind.f64.format.order x y==some .lt)||(FloatKind.f64.format.order x y==some .eq))=decide (key x<=key y):=by
 rw[B14 hx hy,e0m hx hy,<-Bool.decide_or]; congr 1; apply propext; omega
def q03(k:Int):Nat:=if k<0 then 2^63+k.natAbs else k.natAbs
theorem n13{k:Int}(h1 : -(infR:Int)<=k)(h2:k<=(infR:Int)):okW (q03 k):=by
 unfold q03 okW infR at *; split<;>omega
theorem L10{k:Int}(h1 : -(infR:Int)<k)(h2:k<(infR:Int)):finW (q03 k):=by
 unfold q03 finW infR at *; split<;>omega
theorem M10{k:Int}(h1 : -(infR:Int)<=k)(h2:k<=(infR:Int)):key (q03 k)=k:=by
 unfold key q03 infR at *
 by_cases c:k<0
 . rw[if_pos c,if_neg (by omega)]; omega
 . rw[if_neg c,if_pos (by omega)]; omega
theorem O10{w:Nat}(h:w<2^64)(hz:w≠2^63):q03 (key w)=w:=by
 unfold q03 key
 by_cases c:w<2^63
 . rw[if_pos c,if_neg (by omega)]; omega
 . rw[if_neg c,if_pos (by omega)]; omega
theorem Z0a{w:Nat}(h:w<2^64):Op.negFloat .f64 w=if w<2^63 then w+2^63 else w-2^63:=by
 show w ^^^ 2^63=_
 have h1:(w ^^^ 2^63)%2^63=w%2^63:=by
  rw[Nat.xor_mod_two_pow,Nat.mod_self,Nat.xor_zero]
 have h2:(w ^^^ 2^63) / 2^63=w / 2^63 ^^^ 1:=by
  rw[Nat.xor_div_two_pow,Nat.div_self (by omega)]
 by_cases c:w<2^63
 . rw[if_pos c]
   have e:w / 2^63=0:=by omega
   rw[e]at h2
   have h3:(0 ^^^ 1:Nat)=1:=by decide
   rw[h3]at h2
   omega
 . rw[if_neg c]
   have e:w / 2^63=1:=by omega
   rw[e]at h2
   have h3:(1 ^^^ 1:Nat)=0:=by decide
   rw[h3]at h2
   omega
theorem D0f{w:Nat}(h:okW w):okW (Op.negFloat .f64 w)/\key (Op.negFloat .f64 w) = -key w:=by
 rw[Z0a h.1]
 obtain⟨h1,h2⟩:=h
 unfold okW key infR at *
 by_cases c:w<2^63
 . rw[if_pos c,if_pos c]
   refine⟨by omega,?_⟩
   rw[if_neg (by omega)]; omega
 . rw[if_neg c,if_neg c]
   refine⟨by omega,?_⟩
   rw[if_pos (by omega)]; omega
theorem O0s{neg:Bool}{q drop:Nat}(h:q≠0):Ieee.Toward.even.cut neg (q*2^drop) drop=q:=by
 have hp:0<2^drop:=Nat.pow_pos (by omega)
 have hn:q*2^drop≠0:=Nat.mul_ne_zero h (by omega)
 have hle:2^drop<=q*2^drop:=Nat.le_mul_of_pos_left _ (by omega)
 have hl:drop<=(q*2^drop).log2:=(Nat.le_log2 hn).2 hle
 unfold Ieee.Toward.cut
 have e:1 <<< min drop ((q*2^drop).log2+2)=2^drop:=by
  rw[Nat.min_eq_left (by omega),Nat.shiftLeft_eq,Nat.one_mul]
 simp only[e,Nat.mul_div_cancel _ hp,Nat.mul_mod_left]
 have h1:decide (2^drop<2*0)=false:=by simp
 have h2:(2^drop==2*0)=false:=by simp
 rw[h1,h2]; simp
theorem X0k{n k:Nat}(h:n≠0):(n*2^k).log2=n.log2+k:=by
 have hn:n*2^k≠0:=Nat.mul_ne_zero h (by have:0<2^k:=Nat.pow_pos (by omega); omega)
 have h1:=(Nat.log2_eq_iff h (k:=n.log2)).1 rfl
 refine(Nat.log2_eq_iff hn).2 ⟨?_,?_⟩
 . rw[Nat.pow_add]; exact Nat.mul_le_mul_right _ h1.1
 . have e:n.log2+k+1=(n.log2+1)+k:=by omega
   rw[e,Nat.pow_add]; exact Nat.mul_lt_mul_of_pos_right h1.2 (Nat.pow_pos (by omega))
theorem B0e{neg:Bool}{mag:Nat}{place:Int}{r:Nat}(hr:r<infR)(h0:mag≠0){a b:Nat}(hab:place+1074=(a:Int)-b)(h:mag*2^a=rm r*2^b) :
 Ieee.double.nearest neg mag place=Ieee.double.word neg r:=by
 obtain⟨m,h1,h2,h3⟩:=S0o r
 generalize r / 2^52-1=e at h1 h2
 have hrm:rm r=m*2^e:=by rw[h1]; exact q0d ⟨by omega,by omega⟩
 rw[hrm,Nat.mul_assoc,<-Nat.pow_add]at h
 have hpa:0<2^a:=Nat.pow_pos (by omega)
 have hm:m≠0:=by
  intro c; rw[c,Nat.zero_mul]at h
  have:=Nat.mul_ne_zero h0 (by omega:2^a≠0)
  omega
 have hlog:=congrArg Nat.log2 h
 rw[X0k h0,X0k hm]at hlog
 have hlast:max (place+(mag.log2:Int)-(Ieee.double.fractionBits:Int)) Ieee.double.leastPlace=(e:Int)-1074:=by
  rw[m0g]
  show max (place+(mag.log2:Int)-52) (-1074)=_
  rcases h2 with h2|h2
  . have:m.log2<=52:=by
      have:=(Nat.log2_lt hm (k:=53)).2 h3
      omega
    omega
  . have:m.log2=52:=(Nat.log2_eq_iff hm).2 ⟨h2,h3⟩
    omega
 unfold Ieee.Format.nearest
 rw[if_neg h0]
 simp only[hlast]
 have hkept:Ieee.Toward.even.cut neg (mag <<< (place-((e:Int)-1074)).toNat) ((e:Int)-1074-place).toNat=m:=by
  rw[Nat.shiftLeft_eq]
  by_cases c:e+b<=a
  . have e1:(place-((e:Int)-1074)).toNat=a-(e+b):=by omega
    have e2:((e:Int)-1074-place).toNat=0:=by omega
    rw[e1,e2]
    have:mag*2^(a-(e+b))=m:=by
     have hp:0<2^(e+b):=Nat.pow_pos (by omega)
     refine Nat.eq_of_mul_eq_mul_right hp ?_
     rw[Nat.mul_assoc,<-Nat.pow_add,Nat.sub_add_cancel c,h]
    rw[this]
    have:=O0s (neg:=neg) (drop:=0) hm
    rw[Nat.pow_zero,Nat.mul_one]at this; exact this
  . have e1:(place-((e:Int)-1074)).toNat=0:=by omega
    have e2:((e:Int)-1074-place).toNat=e+b-a:=by omega
    rw[e1,e2,Nat.pow_zero,Nat.mul_one]
    have:mag=m*2^(e+b-a):=by
     refine Nat.eq_of_mul_eq_mul_right hpa ?_
     rw[Nat.mul_assoc,<-Nat.pow_add,Nat.sub_add_cancel (by omega),h]
    rw[this]
    exact O0s hm
 rw[hkept,m0g,C0f,c0m]
 have e3:((e:Int)-1074 - -1074).toNat=e:=by omega
 rw[e3,<-h1,Nat.min_eq_left (by omega)]
theorem Q0n{neg:Bool}{mag:Nat}{place:Int}{r:Nat}(hr:r<infR)(h0:mag≠0){a:Nat}(hab:place+1074=(a:Int))(h:mag*2^a=rm r) :
 Ieee.double.nearest neg mag place=Ieee.double.word neg r:=B0e hr h0 (a:=a) (b:=0) (by omega) (by rw[h,Nat.pow_zero,Nat.mul_one])
theorem p15{n k:Nat}(h0:n≠0)(h:n<2^53):∃r,rm r=n*2^k/\(52<=n.log2+k->r=(n.log2+k-52)*2^52+n*2^(52-n.log2)/\2^52<=n*2^(52-n.log2)/\n*2^(52-n.log2)<2^53):=by
 have hl:=(Nat.log2_eq_iff h0 (k:=n.log2)).1 rfl
 have h52:n.log2<=52:=by have:=(Nat.log2_lt h0 (k:=53)).2 h; omega
 by_cases c:52<=n.log2+k
 . have b1:2^52<=n*2^(52-n.log2):=by
     have e:(2:Nat)^52=2^n.log2*2^(52-n.log2):=by rw[<-Nat.pow_add]; congr 1; omega
     rw[e]; exact Nat.mul_le_mul_right _ hl.1
   have b2:n*2^(52-n.log2)<2^53:=by
    have e:(2:Nat)^53=2^(n.log2+1)*2^(52-n.log2):=by rw[<-Nat.pow_add]; congr 1; omega
    rw[e]; exact Nat.mul_lt_mul_of_pos_right hl.2 (Nat.pow_pos (by omega))
   refine⟨(n.log2+k-52)*2^52+n*2^(52-n.log2),?_,λ_=>⟨rfl,b1,b2⟩⟩
   rw[q0d ⟨.inr b1,by omega⟩,Nat.mul_assoc,<-Nat.pow_add]
   congr 2; omega
 . refine⟨n*2^k,?_,λh=>absurd h c⟩
   have:n*2^k<2^52:=by
    have h1:n*2^k<2^(n.log2+1)*2^k:=Nat.mul_lt_mul_of_pos_right hl.2 (Nat.pow_pos (by omega))
    rw[<-Nat.pow_add]at h1
    have h2:2^(n.log2+1+k)<=2^52:=Nat.pow_le_pow_right (by omega) (by omega)
    omega
   unfold rm; rw[if_pos this]
theorem I16{r e:Nat}(h:r=e*2^52+2^52):rm r=2^52*2^e:=by rw[h]; exact q0d ⟨.inr (Nat.le_refl _),by omega⟩
theorem J16{r e:Nat}(h:r=e*2^52+(2^53-1)):rm r=(2^53-1)*2^e:=by rw[h]; exact q0d ⟨.inr (by omega),by omega⟩
theorem P10{a b:Nat}(h:a<b):2^a<2^b:=(Nat.pow_lt_pow_iff_right (by omega)).2 h
theorem K16{a b:Nat}(h:a=b+1):2^52*2^a=2^53*2^b:=by
 subst h; rw[Nat.pow_succ]; omega
theorem f0m{e:Nat}(he:e=2046):rm infR=2^(52+e):=by
 rw[Nat.pow_add]; exact I16 (by subst he; decide)
theorem M16{r n k:Nat}(h:rm r=n*2^k)(hn:n.log2+k<2098)(h0:n≠0):r<infR:=by
 obtain⟨e,he⟩:∃e,e=2046:=⟨_,rfl⟩
 rw[<-A0f,h,f0m he]
 have hl:=(Nat.log2_eq_iff h0 (k:=n.log2)).1 rfl
 have h1:n*2^k<2^(n.log2+1)*2^k:=Nat.mul_lt_mul_of_pos_right hl.2 (Nat.pow_pos (by omega))
 rw[<-Nat.pow_add]at h1
 exact Nat.lt_of_lt_of_le h1 (Nat.pow_le_pow_right (by omega) (by omega))
theorem N16{r n k:Nat}(h:rm r=n*2^k)(hr:r<infR)(h0:n≠0):n.log2+k<2098:=by
 obtain⟨e,he⟩:∃e,e=2046:=⟨_,rfl⟩
 rw[<-A0f,h,f0m he]at hr
 have hl:=(Nat.log2_eq_iff h0 (k:=n.log2)).1 rfl
 have h1:2^n.log2*2^k<=n*2^k:=Nat.mul_le_mul_right _ hl.1
 rw[<-Nat.pow_add]at h1
 have h2:2^(n.log2+k)<2^(52+e):=Nat.lt_of_le_of_lt h1 hr
 have:=(Nat.pow_lt_pow_iff_right (by omega)).1 h2
 omega
theorem P0s{e m:Nat}(he:e<=2045)(h1:2^52<=m)(h2:m<2^53):Ieee.double.read (e*2^52+m) = .number false m (-1074+(e:Int)):=by
 have hb:e*2^52+m<2^63:=by omega
 unfold Ieee.Format.read
 simp only[C0f,I0q,c0m,m0g]
 have e1:(e*2^52+m) / 2^63=0:=Nat.div_eq_of_lt hb
 have e2:(e*2^52+m)%2^63=e*2^52+m:=Nat.mod_eq_of_lt hb
 rw[e1,e2]
 have hi:e*2^52+m<infR:=by unfold infR; omega
 rw[if_neg (by omega),if_pos hi]
 have e3:(e*2^52+m)%2^52=m-2^52:=by omega
 have e4:(e*2^52+m) / 2^52=e+1:=by omega
 rw[e3,e4]
 have e5:2^52+(m-2^52)=m:=by omega
 rw[e5]; rfl
theorem Q0s{x y r:Nat}{m n:Nat}{i j:Int}(hx:Ieee.double.read x = .number false m i)(hy:Ieee.double.read y = .number false n j)(hr:r<infR)(h0:m≠0)(h1:n≠0){a b:Nat}(hab:i+j+1074=(a:Int)-b)(h:m*n*2^a=rm r*2^b) :
 FloatKind.f64.format.mul x y=some r:=by
 show((Ieee.double.read x).product (Ieee.double.read y)).map Ieee.double.write=some r
 rw[hx,hy]
 show some (Ieee.double.nearest false (m*n) (i+j))=some r
 rw[B0e hr (Nat.mul_ne_zero h0 h1) hab h]; rfl
theorem i0v{n:Nat}(h0:n≠0)(h:n<2^53):FloatKind.f64.nearest (n:Int)=(n.log2+1022)*2^52+n*2^(52-n.log2)/\2^52<=n*2^(52-n.log2)/\n*2^(52-n.log2)<2^53:=by
 obtain⟨r,hr,hd⟩:=p15 (k:=1074) h0 h
 obtain⟨h1,h2,h3⟩:=hd (by omega)
 have h52:n.log2<=52:=by have:=(Nat.log2_lt h0 (k:=53)).2 h; omega
 refine⟨?_,h2,h3⟩
 have e:n.log2+1074-52=n.log2+1022:=by omega
 rw[e]at h1
 rw[<-h1]
 show Ieee.double.nearest (decide ((n:Int)<0)) (n:Int).natAbs 0=r
 have e2:decide ((n:Int)<0)=false:=decide_eq_false (by omega)
 rw[e2,Int.natAbs_natCast,B0e (r:=r) (M16 hr (by omega) h0) h0 (a:=1074) (b:=0) (by omega) (by rw[hr,Nat.pow_zero,Nat.mul_one])]
 rfl
theorem S0s{n:Nat}(h0:n≠0)(h:n<=2^53):∃e m,FloatKind.f64.nearest (n:Int)=e*2^52+m/\2^52<=m/\m<2^53/\m*2^e=n*2^1074/\1022<=e/\e<=1075:=by
 by_cases c:n<2^53
 . obtain⟨h1,h2,h3⟩:=i0v h0 c
   have h52:n.log2<=52:=by have:=(Nat.log2_lt h0 (k:=53)).2 c; omega
   refine⟨_,_,h1,h2,h3,?_,by omega,by omega⟩
   have e:52-n.log2+(n.log2+1022)=1074:=by omega
   rw[Nat.mul_assoc,<-Nat.pow_add,e]
 . have:n=2^53:=by omega
   subst this
   have hr:rm (1075*2^52+2^52)=2^52*2^1075:=I16 (r:=1075*2^52+2^52) (e:=1075) rfl
   have hi:1075*2^52+2^52<infR:=by unfold infR; omega
   have e3:2^52*2^1075=2^53*2^1074:=K16 (a:=1075) (b:=1074) rfl
   have h5:2^53*2^1074=rm (1075*2^52+2^52):=e3.symm.trans hr.symm
   refine⟨1075,2^52,?_,by omega,by omega,e3,by omega,by omega⟩
   show Ieee.double.nearest (decide (((2^53:Nat):Int)<0)) ((2^53:Nat):Int).natAbs 0=_
   have e2:decide (((2^53:Nat):Int)<0)=false:=decide_eq_false (by omega)
   rw[e2,Int.natAbs_natCast,Q0n hi (by omega) (a:=1074) (by omega) h5]
   rfl
theorem L0k:FloatKind.f64.nearest 0=0:=by decide
structure T05 (r n d:Nat):Prop where
 lt:r<infR
 le:rm r*d<=n*2^1074
 next:r+1=infR\/n*2^1074<rm (r+1)*d
structure IsUp (r n d:Nat):Prop where
 le:r<=infR
 ge:r=infR\/n*2^1074<=rm r*d
 prev:r=0\/rm (r-1)*d<n*2^1074
theorem T05.unique{r s n d:Nat}(_:0<d)(h:T05 r n d)(k:T05 s n d):r=s:=by
 have key:∀ {a b},T05 a n d->T05 b n d->¬a<b:=by
  intro a b ha hb c
  rcases ha.next with e|e
  . have:=hb.lt; omega
  . have h1:rm (a+1)<=rm b:=B0f.2 (by omega)
    have h2:=Nat.mul_le_mul_right d h1
    have:=hb.le; omega
 have:=key h k
 have:=key k h
 omega
theorem IsUp.unique{r s n d:Nat}(_:0<d)(h:IsUp r n d)(k:IsUp s n d):r=s:=by
 have key:∀ {a b},IsUp a n d->IsUp b n d->¬a<b:=by
  intro a b ha hb c
  rcases ha.ge with e|e
  . have:=hb.le; omega
  . rcases hb.prev with e2|e2
    . omega
    . have h1:rm a<=rm (b-1):=B0f.2 (by omega)
      have h2:=Nat.mul_le_mul_right d h1
      omega
 have:=key h k
 have:=key k h
 omega
def Mag(n d:Nat)(e:Int):Prop:=∃A B:Nat,e=(B:Int)-A/\d*2^B<=n*2^A/\n*2^A<d*2^(B+1)
theorem x07(k:Nat):0<2^k:=Nat.pow_pos (by omega)
theorem M0q{d i j:Nat}(_:0<d)(h:d*2^i<d*2^j):i<j:=(Nat.pow_lt_pow_iff_right (by omega)).1 (Nat.lt_of_mul_lt_mul_left h)
theorem t0p{n d x y A B:Nat}(h1:2^(x-1)<=n)(h2:n<2^x)(h3:2^(y-1)<=d)(h4:d<2^y)(hx:1<=x)(hy:1<=y)(hA:x+A=y+B) :
 (n*2^A<d*2^B->Mag n d ((B:Int)-A-1))/\(d*2^B<=n*2^A->Mag n d ((B:Int)-A)):=by
 constructor
 . intro h
   refine⟨A+1,B,by omega,?_,?_⟩
   . have a1:d*2^B<=2^y*2^B:=Nat.mul_le_mul_right _ (by omega)
     have a2:2^(x-1)*2^(A+1)<=n*2^(A+1):=Nat.mul_le_mul_right _ h1
     rw[<-Nat.pow_add]at a1 a2
     have e:x-1+(A+1)=y+B:=by omega
     rw[e]at a2; omega
   . rw[Nat.pow_succ,Nat.pow_succ,<-Nat.mul_assoc,<-Nat.mul_assoc]; omega
 . intro h
   refine⟨A,B,rfl,h,?_⟩
   have a1:n*2^A<2^x*2^A:=Nat.mul_lt_mul_of_pos_right h2 (x07 A)
   have a2:2^(y-1)*2^(B+1)<=d*2^(B+1):=Nat.mul_le_mul_right _ h3
   rw[<-Nat.pow_add]at a1 a2
   have e:y-1+(B+1)=x+A:=by omega
   rw[e]at a2; omega
theorem o13(x y d:Nat):x*y*d=d*x*y:=by ac_rfl
theorem p13{R d x y n:Nat}(h:R=x*y)(a:d*x<=n):R*d<=n*y:=by
 rw[h,o13]; exact Nat.mul_le_mul_right y a
theorem E0y{a b c:Nat}(h:a=b+c):2^a=2^b*2^c:=by rw[h,Nat.pow_add]
theorem Mag.over{n d:Nat}{e:Int}(h:Mag n d e)(he:1024<=e):rm infR*d<=n*2^1074:=by
 obtain⟨A,B,rfl,h1,_⟩:=h
 obtain⟨k,rfl⟩:∃k,B=A+1024+k:=⟨B-(A+1024),by omega⟩
 have a:d*2^1024<=n:=by
  refine Nat.le_of_mul_le_mul_right ?_ (x07 A)
  refine Nat.le_trans ?_ h1
  rw[Nat.mul_assoc,<-Nat.pow_add 2 1024 A]
  exact Nat.mul_le_mul_left _ (Nat.pow_le_pow_right (by omega) (by omega))
 obtain⟨g,hg⟩:∃g,g=2046:=⟨_,rfl⟩
 have hp:2^(52+g)=2^1024*2^1074:=E0y (a:=52+g) (b:=1024) (c:=1074) (by omega)
 exact p13 ((f0m hg).trans hp) a
theorem s0j{n d:Nat}{e last:Int}(hd:0<d)(h:Mag n d e)(he:e<=1023)(hl:last=max (e-52) (-1074)){a b q t:Nat}(ha:(a:Int)=max (-last) 0)(hb:(b:Int)=max last 0)(hq:q=n*2^a / (d*2^b))(ht:(t:Int)=last+1074) :
 q<2^53/\(t=0\/2^52<=q)/\t<=2045/\rm (t*2^52+q)=q*2^t/\T05 (t*2^52+q) n d /\
  (n*2^a%(d*2^b)=0->IsUp (t*2^52+q) n d)/\(n*2^a%(d*2^b)≠0->IsUp (t*2^52+q+1) n d)/\rm (t*2^52+q+1)=(q+1)*2^t:=by
 have hub:0<d*2^b:=Nat.mul_pos hd (x07 b)
 have f1:q*(d*2^b)<=n*2^a:=by rw[hq]; exact Nat.div_mul_le_self _ _
 have f2:n*2^a<(q+1)*(d*2^b):=by
  have:=Nat.lt_mul_div_succ (n*2^a) hub
  rw[hq,Nat.mul_comm (n*2^a / (d*2^b)+1)]; exact this
 have f3:n*2^a=q*(d*2^b)+n*2^a%(d*2^b):=by
  rw[hq,Nat.mul_comm (n*2^a / (d*2^b))]; exact(Nat.div_add_mod _ _).symm
 obtain⟨A,B,rfl,m1,m2⟩:=h
 have hq53:q<2^53:=by
  rcases Nat.lt_or_ge q (2^53)with c|c
  . exact c
  . exfalso
    have g1:2^53*(d*2^b)<=n*2^a:=Nat.le_trans (Nat.mul_le_mul_right _ c) f1
    have g2:=Nat.mul_le_mul_right (2^A) g1
    have g3:=Nat.mul_lt_mul_of_pos_right m2 (x07 a)
    have e1:2^53*(d*2^b)*2^A=d*2^(53+b+A):=by rw[Nat.pow_add,Nat.pow_add]; ac_rfl
    have e2:n*2^a*2^A=n*2^A*2^a:=by ac_rfl
    have e3:d*2^(B+1)*2^a=d*2^(B+1+a):=by rw[Nat.mul_assoc,<-Nat.pow_add]
    rw[e1,e2]at g2
    rw[e3]at g3
    have:=M0q hd (Nat.lt_of_le_of_lt g2 g3)
    omega
 have hq52:t=0\/2^52<=q:=by
  by_cases c:t=0
  . exact .inl c
  . refine .inr ?_
    rw[hq,Nat.le_div_iff_mul_le hub]
    refine Nat.le_of_mul_le_mul_right ?_ (x07 A)
    have g:=Nat.mul_le_mul_right (2^a) m1
    have e1:2^52*(d*2^b)*2^A=d*2^(52+b+A):=by rw[Nat.pow_add,Nat.pow_add]; ac_rfl
    have e2:n*2^a*2^A=n*2^A*2^a:=by ac_rfl
    have e3:d*2^B*2^a=d*2^(B+a):=by rw[Nat.mul_assoc,<-Nat.pow_add]
    have e4:52+b+A=B+a:=by omega
    rw[e1,e2,e4,<-e3]; exact g
 have ht5:t<=2045:=by omega
 have hr0:rm (t*2^52+q)=q*2^t:=q0d ⟨hq52,by omega⟩
 have hr1:rm (t*2^52+q+1)=(q+1)*2^t:=by rw[Nat.add_assoc]; exact q0d ⟨by omega,by omega⟩
 obtain⟨c,hc⟩:∃c,1074=a+c:=⟨1074-a,by omega⟩
 have htb:t=b+c:=by omega
 have s0:∀k:Nat,k*2^t*d=k*(d*2^b)*2^c:=by intro k; rw[htb,Nat.pow_add]; ac_rfl
 have s1:n*2^1074=n*2^a*2^c:=by rw[hc,Nat.pow_add]; ac_rfl
 have g1:q*2^t*d<=n*2^1074:=by rw[s0,s1]; exact Nat.mul_le_mul_right _ f1
 have g2:n*2^1074<(q+1)*2^t*d:=by rw[s0,s1]; exact Nat.mul_lt_mul_of_pos_right f2 (x07 c)
 have hinf:t*2^52+q<infR:=by unfold infR; omega
 refine⟨hq53,hq52,ht5,hr0,⟨hinf,by rw[hr0]; exact g1,.inr (by rw[hr1]; exact g2)⟩,λh0 => ?_,λh0 => ?_,hr1⟩
 . have g3:q*2^t*d=n*2^1074:=by rw[s0,s1,f3,h0,Nat.add_zero]
   refine⟨by omega,.inr (by rw[hr0,g3]; exact Nat.le_refl _),?_⟩
   by_cases z:t*2^52+q=0
   . exact .inl z
   . refine .inr ?_
     rw[<-g3,<-hr0]
     exact Nat.mul_lt_mul_of_pos_right (b0m (by omega)) hd
 . refine⟨by omega,?_,.inr ?_⟩
   . exact .inr (by rw[hr1]; omega)
   . rw[Nat.add_sub_cancel,hr0,s0,s1]
     exact Nat.mul_lt_mul_of_pos_right (by omega) (x07 c)
def magE(n d:Nat):Int :=
 if n*2^(max ((bl d:Int)-bl n) 0).toNat<d*2^(max ((bl n:Int)-bl d) 0).toNat then(bl n:Int)-bl d-1 else(bl n:Int)-bl d
theorem T0s{n d:Nat}(hn:n≠0)(hd:d≠0):Mag n d (magE n d):=by
 obtain⟨A,hA⟩:∃A,A=(max ((bl d:Int)-bl n) 0).toNat:=⟨_,rfl⟩
 obtain⟨B,hB⟩:∃B,B=(max ((bl n:Int)-bl d) 0).toNat:=⟨_,rfl⟩
 have h:=t0p (n:=n) (d:=d) (x:=bl n) (y:=bl d) (A:=A) (B:=B) (B0g hn) (s0i n) (B0g hd) (s0i d) (b0k hn) (b0k hd) (by omega)
 unfold magE
 rw[<-hA,<-hB]
 have e:(bl n:Int)-bl d=(B:Int)-A:=by omega
 rw[e]
 split
 . exact h.1 (by assumption)
 . exact h.2 (by omega)
def place(n d:Nat):Int:=max (magE n d-52) (-1074)
def top(n d:Nat):Nat:=n*2^(max (-place n d) 0).toNat
def bot(n d:Nat):Nat:=d*2^(max (place n d) 0).toNat
def A0c(n d:Nat):Nat :=
 if n=0 then 0 else if magE n d>1023 then infR-1 else(place n d+1074).toNat*2^52+top n d / bot n d
def upK(n d:Nat):Nat :=
 if n=0 then 0 else if magE n d>1023 then infR
 else if top n d%bot n d=0 then(place n d+1074).toNat*2^52+top n d / bot n d else(place n d+1074).toNat*2^52+top n d / bot n d+1
theorem Q10{n K x:Nat}(h:n=0)(hx:0<x):n*K<x:=by rw[h,Nat.zero_mul]; exact hx
theorem S10{n K x:Nat}(h:n=0):n*K<=x:=by rw[h,Nat.zero_mul]; exact Nat.zero_le _
theorem F0y{d x:Nat}:rm 0*d<=x:=by rw[q0j,Nat.zero_mul]; exact Nat.zero_le _
theorem T05.zeroN{n d:Nat}(h:n=0)(hd:0<d):T05 0 n d:=⟨by decide,F0y,.inr (Q10 h (Nat.mul_pos (H10 (by omega)) hd))⟩
theorem IsUp.zeroN{n d:Nat}(h:n=0):IsUp 0 n d:=⟨by decide,.inr (S10 h),.inl rfl⟩
theorem T05.zero{d:Nat}(hd:0<d):T05 0 0 d:=T05.zeroN rfl hd
theorem IsUp.zero(d:Nat):IsUp 0 0 d:=IsUp.zeroN rfl
theorem T05.most{n d:Nat}(h:rm infR*d<=n*2^1074):T05 (infR-1) n d :=
 ⟨by decide,Nat.le_trans (Nat.mul_le_mul_right d (B0f.2 (by omega))) h,.inl (by decide)⟩
theorem IsUp.most{n d:Nat}(hd:0<d)(h:rm infR*d<=n*2^1074):IsUp infR n d :=
 ⟨Nat.le_refl _,.inl rfl,.inr (Nat.lt_of_lt_of_le (Nat.mul_lt_mul_of_pos_right (b0m (by decide)) hd) h)⟩
theorem X05{n d:Nat}(hd:0<d):T05 (A0c n d) n d:=by
 unfold A0c
 by_cases h0:n=0
 . rw[if_pos h0,h0]; exact .zero hd
 . rw[if_neg h0]
   have hM:=T0s h0 (by omega:d≠0)
   by_cases hc:magE n d>1023
   . rw[if_pos hc]; exact .most (hM.over (by omega))
   . rw[if_neg hc]
     exact(s0j hd hM (by omega) (last:=place n d) rfl (a:=(max (-place n d) 0).toNat) (b:=(max (place n d) 0).toNat) (t:=(place n d+1074).toNat) (by omega) (by omega) rfl (by unfold place; omega)).2.2.2.2.1
theorem G07{n d:Nat}(hd:0<d):IsUp (upK n d) n d:=by
 unfold upK
 by_cases h0:n=0
 . rw[if_pos h0,h0]; exact .zero d
 . rw[if_neg h0]
   have hM:=T0s h0 (by omega:d≠0)
   by_cases hc:magE n d>1023
   . rw[if_pos hc]; exact .most hd (hM.over (by omega))
   . rw[if_neg hc]
     have f:=(s0j hd hM (by omega) (last:=place n d) rfl (a:=(max (-place n d) 0).toNat) (b:=(max (place n d) 0).toNat) (t:=(place n d+1074).toNat) (by omega) (by omega) rfl (by unfold place; omega)).2.2.2.2.2
     by_cases z:top n d%bot n d=0
     . rw[if_pos z]; exact f.1 z
     . rw[if_neg z]; exact f.2.1 z
theorem T10{n d n' d' a K:Nat}(hd:0<d)(h:n*d'=n'*d):a*d'<=n'*K↔a*d<=n*K\/d'=0:=by
 by_cases z:d'=0
 . simp[z]
 . have hd':0<d':=by omega
   constructor
   . intro g
     refine .inl (Nat.le_of_mul_le_mul_right ?_ hd')
     have g2:=Nat.mul_le_mul_right d g
     have e1:a*d*d'=a*d'*d:=by ac_rfl
     have e2:n*K*d'=n'*K*d:=by
      have:n*K*d'=n*d'*K:=by ac_rfl
      rw[this,h]; ac_rfl
     rw[e1,e2]; exact g2
   . rintro(g|g)
     . refine Nat.le_of_mul_le_mul_right ?_ hd
       have g2:=Nat.mul_le_mul_right d' g
       have e1:a*d'*d=a*d*d':=by ac_rfl
       have e2:n'*K*d=n*K*d':=by
        have:n*K*d'=n*d'*K:=by ac_rfl
        rw[this,h]; ac_rfl
       rw[e1,e2]; exact g2
     . exact absurd g z
theorem U10{n d n' d' a K:Nat}(hd:0<d)(hd':0<d')(h:n*d'=n'*d):n'*K<=a*d'↔n*K<=a*d:=by
 have e2:n*K*d'=n'*K*d:=by
  have:n*K*d'=n*d'*K:=by ac_rfl
  rw[this,h]; ac_rfl
 constructor
 . intro g
   refine Nat.le_of_mul_le_mul_right ?_ hd'
   rw[e2]
   have g2:=Nat.mul_le_mul_right d g
   have e1:a*d*d'=a*d'*d:=by ac_rfl
   rw[e1]; exact g2
 . intro g
   refine Nat.le_of_mul_le_mul_right ?_ hd
   rw[<-e2]
   have g2:=Nat.mul_le_mul_right d' g
   have e1:a*d'*d=a*d*d':=by ac_rfl
   rw[e1]; exact g2
theorem T05.congr{r n d n' d':Nat}(hd:0<d)(hd':0<d')(h:n*d'=n'*d)(k:T05 r n d):T05 r n' d':=by
 refine⟨k.lt,(@T10 n d n' d' (rm r) _ hd h).2 (.inl k.le),?_⟩
 rcases k.next with e|e
 . exact .inl e
 . refine .inr (Nat.lt_of_not_le λg => ?_)
   rcases (@T10 n d n' d' (rm (r+1)) _ hd h).1 g with g|g
   . omega
   . omega
theorem IsUp.congr{r n d n' d':Nat}(hd:0<d)(hd':0<d')(h:n*d'=n'*d)(k:IsUp r n d):IsUp r n' d':=by
 refine⟨k.le,?_,?_⟩
 . rcases k.ge with e|e
   . exact .inl e
   . exact .inr ((@U10 n d n' d' (rm r) _ hd hd' h).2 e)
 . rcases k.prev with e|e
   . exact .inl e
   . refine .inr (Nat.lt_of_not_le λg => ?_)
     have:=(@U10 n d n' d' (rm (r-1)) _ hd hd' h).1 g
     omega
def Z08(q:Rat):Int:=if 0<=q.num then(A0c q.num.natAbs q.den:Int)else -(upK q.num.natAbs q.den:Int)
def f0a(q:Rat):Int:=if 0<=q.num then(upK q.num.natAbs q.den:Int)else -(A0c q.num.natAbs q.den:Int)
structure Eb where
 inf:Int
 x:Rat
deriving DecidableEq
namespace Eb
def fin(x:Rat):Eb:=⟨0,x⟩
def ok(a:Eb):Prop:=a.inf=0\/(a.x=0/\(a.inf=1\/a.inf = -1))
def num(a:Eb):Cq:=⟨a.x,0⟩
def cmp(a b:Eb):Int:=if a.inf≠0\/b.inf≠0 then cmpZ a.inf b.inf else cmpR a.x b.x
def sign(a:Eb):Int:=cmp a (fin 0)
def neg(a:Eb):Eb:=⟨-a.inf,-a.x⟩
def add(a b:Eb):Eb:=if a.inf≠0 then a else if b.inf≠0 then b else⟨0,a.x+b.x⟩
def mul(a b:Eb):Eb:=if a.inf=0/\b.inf=0 then⟨0,a.x*b.x⟩else⟨a.sign*b.sign,0⟩
theorem neg_ok{a:Eb}(h:a.ok):a.neg.ok:=by
 rcases h with h|⟨h,h2⟩
 . left; show -a.inf=0; omega
 . right; refine⟨?_,?_⟩
   . show -a.x=0; rw[h]; rfl
   . show -a.inf=1 \/ -a.inf = -1; omega
theorem add_ok{a b:Eb}(h:a.ok)(k:b.ok):(a.add b).ok:=by
 unfold add; split
 . exact h
 . split
   . exact k
   . exact .inl rfl
theorem G0y(a b:Int):cmpZ a b = -1\/cmpZ a b=0\/cmpZ a b=1:=by unfold cmpZ; split<;>(try split)<;>simp
theorem H0y(a b:Rat):cmpR a b = -1\/cmpR a b=0\/cmpR a b=1:=by unfold cmpR; split<;>(try split)<;>simp
theorem cmp_range(a b:Eb):cmp a b = -1\/cmp a b=0\/cmp a b=1:=by
 unfold cmp; split
 . exact G0y _ _
 . exact H0y _ _
theorem mul_ok(a b:Eb):(a.mul b).ok:=by
 unfold mul; split
 . exact .inl rfl
 . have h1:a.sign = -1\/a.sign=0\/a.sign=1:=cmp_range _ _
   have h2:b.sign = -1\/b.sign=0\/b.sign=1:=cmp_range _ _
   rcases h1 with h1|h1|h1<;>rcases h2 with h2|h2|h2<;>rw[h1,h2]<;>unfold ok<;>simp
def pick(way:Int):List Eb->Eb
 | []=>⟨0,0⟩
 | e::es=>es.foldl (λo x=>if cmp x o=way then x else o) e
theorem pick_mem(way:Int):∀(es:List Eb) (e:Eb),es.foldl (λo x=>if cmp x o=way then x else o) e=e\/es.foldl (λo x=>if cmp x o=way then x else o) e∈es
 | [],_ => .inl rfl
 | x::es,e=>by
   simp only[List.foldl_cons]
   rcases pick_mem way es (if cmp x e=way then x else e)with h|h
   . rw[h]; split
     . exact .inr (by simp)
     . exact .inl rfl
   . exact .inr (by simp[h])
end Eb
structure Es where
 lo:Eb
 hi:Eb
namespace Es
def neg(a:Es):Es:=⟨a.hi.neg,a.lo.neg⟩
def add(a b:Es):Es:=⟨a.lo.add b.lo,a.hi.add b.hi⟩
def prods(a b:Es):List Eb:=[a.lo.mul b.lo,a.lo.mul b.hi,a.hi.mul b.lo,a.hi.mul b.hi]
def mul(a b:Es):Es:=⟨Eb.pick (-1) (prods a b),Eb.pick 1 (prods a b)⟩
end Es
structure Sk where
 lo:Int
 hi:Int
deriving DecidableEq
def fkq(k:Int):Rat:=(kz k:Rat) / ((2^1074:Nat):Rat)
def endE(k:Int):Eb:=if k=(infR:Int)then⟨1,0⟩else if k = -(infR:Int)then⟨-1,0⟩else⟨0,fkq k⟩
theorem N0q(k:Int):(endE k).ok:=by
 unfold endE; split
 . exact .inr ⟨rfl,.inl rfl⟩
 . split
   . exact .inr ⟨rfl,.inr rfl⟩
   . exact .inl rfl
def Sk.set(s:Sk):Es:=⟨endE s.lo,endE s.hi⟩
def Es.span(a:Es):Sk:=⟨if a.lo.inf=0 then Z08 a.lo.x else -(infR:Int),if a.hi.inf=0 then f0a a.hi.x else(infR:Int)⟩
def inK(k:Int):Prop := -(infR:Int)<=k/\k<=(infR:Int)
theorem U0s(q:Rat):inK (Z08 q):=by
 have hd:0<q.den:=by have:=q.den_nz; omega
 have h1:=(X05 (n:=q.num.natAbs) hd).lt
 have h2:=(G07 (n:=q.num.natAbs) hd).le
 unfold Z08 inK; split<;>omega
theorem W0s(q:Rat):inK (f0a q):=by
 have hd:0<q.den:=by have:=q.den_nz; omega
 have h1:=(X05 (n:=q.num.natAbs) hd).lt
 have h2:=(G07 (n:=q.num.natAbs) hd).le
 unfold f0a inK; split<;>omega
structure Sk.ok (s:Sk):Prop where
 lo:inK s.lo
 hi:inK s.hi
theorem l0b(a:Es):a.span.ok:=by
 refine⟨?_,?_⟩
 . unfold Es.span; dsimp only; split
   . exact U0s _
   . unfold inK; omega
 . unfold Es.span; dsimp only; split
   . exact W0s _
   . unfold inK; omega
def Sk.v(k:Sk):SpV:=⟨q03 k.lo,q03 k.hi⟩
def Sk.neg(s:Sk):Sk:=⟨-s.hi,-s.lo⟩
def Sk.hull(s t:Sk):Sk:=⟨min s.lo t.lo,max s.hi t.hi⟩
def Sk.isIn(s t:Sk):Bool:=decide (t.lo<=s.lo)&&decide (s.hi<=t.hi)
def Sk.has(s:Sk)(q:Rat):Bool:=decide ((endE s.lo).cmp ⟨0,q⟩<=0)&&decide ((⟨0,q⟩:Eb).cmp (endE s.hi)<=0)
theorem Sk.neg_ok{s:Sk}(h:s.ok):s.neg.ok:=by
 have a:=h.lo; have b:=h.hi
 unfold inK at a b
 exact⟨by unfold inK Sk.neg; dsimp only; omega,by unfold inK Sk.neg; dsimp only; omega⟩
theorem Sk.hull_ok{s t:Sk}(h:s.ok)(k:t.ok):(s.hull t).ok:=by
 have a:=h.lo; have b:=h.hi; have c:=k.lo; have d:=k.hi
 unfold inK at a b c d
 exact⟨by unfold inK Sk.hull; dsimp only; omega,by unfold inK Sk.hull; dsimp only; omega⟩
def Sk.nil:Sk:=⟨0,0⟩
theorem W10:inK 0:=by unfold inK infR; omega
theorem E12:Sk.nil.ok:=⟨W10,W10⟩
def Sk.proper(s:Sk):Prop:=s.lo<=s.hi/\s.lo≠(infR:Int)/\s.hi ≠ -(infR:Int)
theorem okK{k:Int}(h:inK k):okW (q03 k):=n13 h.1 h.2
theorem keyK{k:Int}(h:inK k):key (q03 k)=k:=M10 h.1 h.2
theorem U0v{a b:Int}(ha:inK a)(hb:inK b):fmax .f64 (q03 a) (q03 b)=q03 (max a b):=by
 unfold fmax
 rw[U0b (okK ha) (okK hb),keyK ha,keyK hb]
 rcases Int.lt_trichotomy a b with h|h|h
 . rw[show compare a b = .lt from Int.compare_eq_lt.2 h]; dsimp only; rw[Int.max_eq_right (by omega)]
 . subst h; rw[show compare a a = .eq from Int.compare_eq_eq.2 rfl]; dsimp only; rw[Int.max_eq_left (by omega)]; split<;>rfl
 . rw[show compare a b = .gt from Int.compare_eq_gt.2 h]; dsimp only; rw[Int.max_eq_left (by omega)]
theorem W0v{a b:Int}(ha:inK a)(hb:inK b):fmin .f64 (q03 a) (q03 b)=q03 (min a b):=by
 unfold fmin
 rw[U0b (okK ha) (okK hb),keyK ha,keyK hb]
 rcases Int.lt_trichotomy a b with h|h|h
 . rw[show compare a b = .lt from Int.compare_eq_lt.2 h]; dsimp only; rw[Int.min_eq_left (by omega)]
 . subst h; rw[show compare a a = .eq from Int.compare_eq_eq.2 rfl]; dsimp only; rw[Int.min_eq_left (by omega)]; split<;>rfl
 . rw[show compare a b = .gt from Int.compare_eq_gt.2 h]; dsimp only; rw[Int.min_eq_right (by omega)]
theorem n0g{a b:Int}(ha:inK a)(hb:inK b):(FloatKind.f64.format.order (q03 a) (q03 b)).isSome=true:=by
 rw[U0b (okK ha) (okK hb)]; rfl
theorem leK{a b:Int}(ha:inK a)(hb:inK b):((FloatKind.f64.format.order (q03 a) (q03 b)==some .lt)||(FloatKind.f64.format.order (q03 a) (q03 b)==some .eq))=decide (a<=b):=by
 rw[H16 (okK ha) (okK hb),keyK ha,keyK hb]
structure Bk where
 re:Sk
 im:Sk
deriving DecidableEq
structure Bk.ok (b:Bk):Prop where
 re:b.re.ok
 im:b.im.ok
def Bk.proper(b:Bk):Prop:=b.re.proper/\b.im.proper
def Bk.v(b:Bk):BoxV:=⟨b.re.v,b.im.v⟩
def Bk.nil:Bk:=⟨Sk.nil,Sk.nil⟩
def Bk.mul(b c:Bk):Bk :=
 ⟨((b.re.set.mul c.re.set).add (b.im.set.mul c.im.set).neg).span,((b.re.set.mul c.im.set).add (b.im.set.mul c.re.set)).span⟩
def Bk.neg(b:Bk):Bk:=⟨b.re.neg,b.im.neg⟩
def Bk.conj(b:Bk):Bk:=⟨b.re,b.im.neg⟩
def Bk.hull(b c:Bk):Bk:=⟨b.re.hull c.re,b.im.hull c.im⟩
def Bk.isIn(b c:Bk):Bool:=b.re.isIn c.re&&b.im.isIn c.im
def Bk.has(b:Bk)(z:Cq):Bool:=b.re.has z.re&&b.im.has z.im
namespace Eb
def LT(a b:Eb):Prop:=a.inf<b.inf\/(a.inf=0/\b.inf=0/\a.x<b.x)
theorem cmp_neg1{a b:Eb}:cmp a b = -1↔LT a b:=by
 unfold cmp LT cmpZ cmpR
 by_cases h:a.inf≠0\/b.inf≠0
 . rw[if_pos h]
   constructor
   . intro e
     left
     split at e
     . assumption
     . split at e<;>simp at e
   . rintro(e|⟨e1,e2,_⟩)
     . rw[if_pos e]
     . exfalso; omega
 . rw[if_neg h]
   have h1:a.inf=0:=by omega
   have h2:b.inf=0:=by omega
   constructor
   . intro e
     refine .inr ⟨h1,h2,?_⟩
     split at e
     . assumption
     . split at e<;>simp at e
   . rintro(e|⟨_,_,e⟩)
     . exfalso; omega
     . rw[if_pos e]
theorem cmp_1{a b:Eb}:cmp a b=1↔LT b a:=by
 unfold cmp LT cmpZ cmpR
 by_cases h:a.inf≠0\/b.inf≠0
 . rw[if_pos h]
   constructor
   . intro e
     left
     split at e
     . simp at e
     . split at e
       . simp at e
       . omega
   . rintro(e|⟨e1,e2,_⟩)
     . rw[if_neg (by omega),if_neg (by omega)]
     . exfalso; omega
 . rw[if_neg h]
   have h1:a.inf=0:=by omega
   have h2:b.inf=0:=by omega
   constructor
   . intro e
     refine .inr ⟨h2,h1,?_⟩
     split at e
     . simp at e
     . split at e
       . simp at e
       . grind
   . rintro(e|⟨_,_,e⟩)
     . exfalso; omega
     . rw[if_neg (by grind),if_neg (by grind)]
theorem LT.trans{a b c:Eb}(h:LT a b)(k:LT b c):LT a c:=by
 unfold LT at *
 rcases h with h|⟨h1,h2,h3⟩<;>rcases k with k|⟨k1,k2,k3⟩
 . left; omega
 . left; omega
 . left; omega
 . right; exact⟨h1,k2,by grind⟩
theorem LT.weak{a b c:Eb}(h:LT a c):LT a b\/LT b c:=by
 unfold LT at *
 rcases h with h|⟨h1,h2,h3⟩
 . by_cases q:a.inf<b.inf
   . exact .inl (.inl q)
   . exact .inr (.inl (by omega))
 . rcases Int.lt_trichotomy b.inf 0 with q|q|q
   . exact .inr (.inl (by omega))
   . by_cases p:a.x<b.x
     . exact .inl (.inr ⟨h1,q,p⟩)
     . exact .inr (.inr ⟨q,h2,by grind⟩)
   . exact .inl (.inl (by omega))
theorem LT.irrefl{a:Eb}:¬LT a a:=by
 unfold LT; rintro(h|⟨_,_,h⟩)
 . omega
 . grind
theorem LT.tri{a b:Eb}(ha:a.ok)(hb:b.ok)(h:¬LT a b)(k:¬LT b a):a=b:=by
 unfold LT at h k
 have h1:a.inf=b.inf:=by omega
 unfold ok at ha hb
 have h2:a.x=b.x:=by
  by_cases z:a.inf=0
  . have z2:b.inf=0:=by omega
    have p:¬a.x<b.x:=λq=>h (.inr ⟨z,z2,q⟩)
    have p2:¬b.x<a.x:=λq=>k (.inr ⟨z2,z,q⟩)
    grind
  . rcases ha with ha|ha
    . exact absurd ha z
    . rcases hb with hb|hb
      . exact absurd hb (by omega)
      . rw[ha.1,hb.1]
 cases a; cases b; simp at h1 h2; rw[h1,h2]
theorem LT_neg{a b:Eb}:LT a.neg b.neg↔LT b a:=by
 unfold LT neg; dsimp only
 constructor
 . rintro(h|⟨h1,h2,h3⟩)
   . left; omega
   . right; exact⟨by omega,by omega,by grind⟩
 . rintro(h|⟨h1,h2,h3⟩)
   . left; omega
   . right; exact⟨by omega,by omega,by grind⟩
theorem neg_add(a b:Eb):(a.add b).neg=a.neg.add b.neg:=by
 have h1:a.neg.inf = -a.inf:=rfl
 have h2:b.neg.inf = -b.inf:=rfl
 by_cases c:a.inf=0
 . have c':¬a.inf≠0:=λh=>h c
   have c2:¬a.neg.inf≠0:=λh=>h (by rw[h1]; omega)
   by_cases d:b.inf=0
   . have d':¬b.inf≠0:=λh=>h d
     have d2:¬b.neg.inf≠0:=λh=>h (by rw[h2]; omega)
     unfold add
     rw[if_neg c',if_neg c2,if_neg d',if_neg d2]
     show(⟨-0,-(a.x+b.x)⟩:Eb)=⟨0,-a.x + -b.x⟩
     congr 1; grind
   . have d2:b.neg.inf≠0:=by rw[h2]; omega
     unfold add
     rw[if_neg c',if_neg c2,if_pos d,if_pos d2]
 . have c2:a.neg.inf≠0:=by rw[h1]; omega
   unfold add
   rw[if_pos c,if_pos c2]
theorem mul_comm(a b:Eb):a.mul b=b.mul a:=by
 unfold mul
 by_cases c:a.inf=0/\b.inf=0
 . rw[if_pos c,if_pos ⟨c.2,c.1⟩]; congr 1; grind
 . rw[if_neg c,if_neg (λg=>c ⟨g.2,g.1⟩)]; congr 1; exact Int.mul_comm _ _
end Eb
theorem C0h(a b:Es):Es.prods a b≠[]:=by simp[Es.prods]
theorem T0o(d:Nat):A0c 0 d=0:=rfl
theorem X0v(d:Nat):upK 0 d=0:=rfl
theorem t0j(q:Rat):Z08 (-q) = -f0a q:=by
 unfold Z08 f0a
 have hn:(-q).num = -q.num:=rfl
 have hd:(-q).den=q.den:=rfl
 rw[hn,hd]
 rcases Int.lt_trichotomy q.num 0 with h|h|h
 . rw[if_pos (by omega),if_neg (by omega),Int.natAbs_neg,Int.neg_neg]
 . rw[h]; rw[if_pos (by decide),if_pos (by decide)]; show((A0c 0 q.den:Nat):Int) = -((upK 0 q.den:Nat):Int); rw[T0o,X0v]; rfl
 . rw[if_neg (by omega),if_pos (by omega),Int.natAbs_neg]
theorem I0y(q:Rat):f0a (-q) = -Z08 q:=by
 have:=t0j (-q)
 rw[Rat.neg_neg]at this
 omega
theorem b0n(a:Es):a.neg.span=a.span.neg:=by
 unfold Es.span Es.neg Sk.neg Eb.neg
 dsimp only
 rw[t0j,I0y]
 congr 1
 . by_cases h:a.hi.inf=0
   . rw[if_pos (by omega),if_pos h]
   . rw[if_neg (by omega),if_neg h]
 . by_cases h:a.lo.inf=0
   . rw[if_pos (by omega),if_pos h]
   . rw[if_neg (by omega),if_neg h,Int.neg_neg]
theorem q15(k:Int):fkq (-k) = -fkq k:=by
 unfold fkq; rw[A14,Rat.intCast_neg,Rat.div_def,Rat.div_def,Rat.neg_mul]
theorem Y0k(k:Int):endE (-k)=(endE k).neg:=by
 have h0:(infR:Int)≠0:=by unfold infR; decide
 unfold endE
 by_cases h:k=(infR:Int)
 . rw[if_neg (by omega),if_pos (by omega),if_pos h]; rfl
 . by_cases g:k = -(infR:Int)
   . rw[if_pos (by omega),if_neg h,if_pos g]; rfl
   . rw[if_neg (by omega),if_neg (by omega),if_neg h,if_neg g,q15]; rfl
theorem y0g(s:Sk):s.neg.set=s.set.neg:=by
 unfold Sk.set Sk.neg Es.neg; dsimp only; rw[Y0k,Y0k]
def Bk.add(b c:Bk):Bk:=⟨(b.re.set.add c.re.set).span,(b.im.set.add c.im.set).span⟩
def Bk.sub(b c:Bk):Bk:=⟨(b.re.set.add c.re.set.neg).span,(b.im.set.add c.im.set.neg).span⟩
theorem Bk.sub_eq(b c:Bk):b.sub c=b.add c.neg:=by
 unfold Bk.sub Bk.add Bk.neg; dsimp only; rw[y0g,y0g]
theorem Bk.add_ok(b c:Bk):(b.add c).ok:=⟨l0b _,l0b _⟩
theorem B08{b:Bk}(h:b.ok):b.conj.ok:=⟨h.re,Sk.neg_ok h.im⟩
theorem D0h{a:Eb}(h:a.ok):a.inf=0\/a.inf=1\/a.inf = -1:=by
 rcases h with h|⟨_,h⟩
 . exact .inl h
 . exact .inr h
theorem K0j{a:Eb}(_:a.inf≠0):(a.inf<0->a.sign = -1)/\(0<a.inf->a.sign=1):=by
 refine⟨λg=>Eb.cmp_neg1.2 (.inl g),λg=>Eb.cmp_1.2 (.inl g)⟩
def boxC(_:View)(x:List Value)(b:Bk):Prop:=x=b.v.val.cells.toList/\b.ok
theorem boxC.le{V V':View}(_:V.le V')(x:List Value)(b:Bk)(h:boxC V x b):boxC V' x b:=h
def u01(V:View)(s:Sl)(bs:List Bk):Prop:=l01 4 boxC V s bs
theorem u01.le{V V':View}(hle:V.le V'){s:Sl}{zs:List Bk}(h:u01 V s zs):u01 V' s zs:=l01.le (boxC.le hle) hle h
theorem u01.len{V:View}{s:Sl}{zs:List Bk}(h:u01 V s zs):s.len=zs.length:=l01.len h
def nthB(zs:List Bk)(i:Nat):Bk:=zs.getD i Bk.nil
theorem Y0v{zs:List Bk}{i:Nat}(h:i<zs.length):zs[i]?=some (nthB zs i):=by simp[nthB,List.getD,h]
theorem O0q{n i:Nat}(h:i<n)(f:Nat->Bk):nthB ((List.range n).map f) i=f i:=by simp[nthB,List.getD,h]
theorem u01.get{V:View}{s:Sl}{zs:List Bk}(h:u01 V s zs){t:Int}(h0:0<=t)(h1:t.toNat<zs.length) :
 ((0:Int)<=t/\t<(s.len:Nat)/\Option.isSome s.a=true) /\
 V.has (Option.map (λq=>Addr.add q (Int.toNat t*4)) s.a) (nthB zs t.toNat).v.val.cells.toList/\Option.isSome (Option.map (λq=>Addr.add q (Int.toNat t*4)) s.a)=true/\(nthB zs t.toNat).ok:=by
 obtain⟨hb,x,⟨e,hn⟩,_,h1,h2⟩:=l01.get h h0 (Y0v h1)
 exact⟨hb,e▸h1,h2,hn⟩
abbrev zb4:List Value:=[Value.float .f64 0,Value.float .f64 0,Value.float .f64 0,Value.float .f64 0]
def Z0v(a b:List Bk):List Bk:=(List.range a.length).map λi=>(nthB a i).mul (nthB b i)
theorem P0q(a b:List Bk):(Z0v a b).length=a.length:=by simp[Z0v]
def W0b(a b:List Bk)(j:Nat):Nat->Bk
 | 0=>(nthB a 0).mul (nthB b j)
 | k+1=>(W0b a b j k).add ((nthB a (k+1)).mul (nthB b ((j+a.length-(k+1))%a.length)))
def q13(a b:List Bk):List Bk:=(List.range a.length).map λj=>W0b a b j (a.length-1)
theorem X0s(a b:List Bk):(q13 a b).length=a.length:=by simp[q13]
def t0h(zs:List Bk):Nat->Bk
 | 0=>nthB zs 0
 | k+1=>(t0h zs k).add (nthB zs (k+1))
def X10(zs:List Bk):List Bk:=(List.range zs.length).map (t0h zs)
def J0y(zs:List Bk):Nat->Bk
 | 0=>(nthB zs 0).mul (nthB zs 0).conj
 | k+1=>(J0y zs k).add ((nthB zs (k+1)).mul (nthB zs (k+1)).conj)
def a0w(zs:List Bk)(b:Int):List Bk:=(List.range zs.length).map λp=>nthB zs (preP zs.length (modB b zs.length) p)
theorem Q0q(zs:List Bk)(b:Int):(a0w zs b).length=zs.length:=by simp[a0w]
def cutB(zB:Bk)(zs:List Bk)(B:Nat->Bool):List Bk:=(List.range zs.length).map λk=>if B k=true then nthB zs k else zB
theorem g0m(zB:Bk)(zs:List Bk)(B:Nat->Bool):(cutB zB zs B).length=zs.length:=by simp[cutB]
def S0q(ws:List Bk):List Bk:=(List.range ws.length).map λi=>(nthB ws i).conj
theorem d0k(ws:List Bk):(S0q ws).length=ws.length:=by simp[S0q]
def i0m(p:Bk)(zs:List Bk):List Bk:=(List.range zs.length).map λi=>(nthB zs i).mul p
theorem S0n(p:Bk)(zs:List Bk):(i0m p zs).length=zs.length:=by simp[i0m]
def D04(zs:List Bk)(a:Nat):List Bk:=(List.range ((zs.length+1-a) / 2)).map λk=>nthB zs (a+2*k)
theorem f06(zs:List Bk)(a:Nat):(D04 zs a).length=(zs.length+1-a) / 2:=by simp[D04]
def A03:Nat->List Bk->List Bk->List Bk
 | 0,zs,_=>[nthB zs 0]
 | m + 1, zs, ws => (List.range (2 ^ (m + 1))).map fun i =>
     if i<2^m then(nthB (A03 m (D04 zs 0) (D04 ws 0)) i).add ((nthB (A03 m (D04 zs 1) (D04 ws 0)) i).mul (nthB ws i))
     else(nthB (A03 m (D04 zs 0) (D04 ws 0)) (i-2^m)).sub ((nthB (A03 m (D04 zs 1) (D04 ws 0)) (i-2^m)).mul (nthB ws (i-2^m)))
theorem N02(m:Nat)(zs ws:List Bk):(A03 m zs ws).length=2^m:=by cases m<;>simp[A03]
def A0i(zB:Bk)(zs:List Bk)(d:Bk)(p:Nat):Bk :=
 if p=0 then d else if p=zs.length+1 then zB else if p<zs.length+1 then nthB zs (p-1)else(nthB zs (2*(zs.length+1)-p-1)).conj
def T0q(zB:Bk)(zs:List Bk)(d:Bk):List Bk:=(List.range (2*(zs.length+1))).map (A0i zB zs d)
def a0b(zB:Bk)(zs:List Bk)(d:Bk)(k p:Nat):Option Bk :=
 if p=0 then some d else if p=zs.length+1 then some zB else if p<zs.length+1 then(if p<k then some (nthB zs (p-1))else none)else if 2*(zs.length+1)-p<k then some (nthB zs (2*(zs.length+1)-p-1)).conj else none
theorem B0i{zB:Bk}{zs:List Bk}{d:Bk}{k p:Nat}(h1:1<=k)(hk:k<zs.length+1)(hp:p<2*(zs.length+1)) :
 (if p=2*(zs.length+1)-k then some (nthB zs (k-1)).conj else if p=k then some (nthB zs (k-1))else a0b zB zs d k p)=a0b zB zs d (k+1) p:=by
 unfold a0b
 by_cases e1:p=2*(zs.length+1)-k
 . subst e1
   rw[if_pos rfl,if_neg (by omega),if_neg (by omega),if_neg (by omega),if_pos (by omega)]
   congr 3; omega
 . rw[if_neg e1]
   by_cases e2:p=k
   . subst e2
     rw[if_pos rfl,if_neg (by omega),if_neg (by omega),if_pos (by omega),if_pos (by omega)]
   . rw[if_neg e2]
     by_cases c0:p=0
     . rw[if_pos c0,if_pos c0]
     . rw[if_neg c0,if_neg c0]
       by_cases c1:p=zs.length+1
       . rw[if_pos c1,if_pos c1]
       . rw[if_neg c1,if_neg c1]
         by_cases c2:p<zs.length+1
         . rw[if_pos c2,if_pos c2]
           by_cases c3:p<k
           . rw[if_pos c3,if_pos (by omega)]
           . rw[if_neg c3,if_neg (by omega)]
         . rw[if_neg c2,if_neg c2]
           by_cases c3:2*(zs.length+1)-p<k
           . rw[if_pos c3,if_pos (by omega)]
           . rw[if_neg c3,if_neg (by omega)]
theorem e0k{zB:Bk}{zs:List Bk}{d:Bk}{p:Nat}(hp:p<2*(zs.length+1)):a0b zB zs d (zs.length+1) p=some (A0i zB zs d p):=by
 unfold a0b A0i
 by_cases c0:p=0
 . rw[if_pos c0,if_pos c0]
 . rw[if_neg c0,if_neg c0]
   by_cases c1:p=zs.length+1
   . rw[if_pos c1,if_pos c1]
   . rw[if_neg c1,if_neg c1]
     by_cases c2:p<zs.length+1
     . rw[if_pos c2,if_pos c2,if_pos c2]
     . rw[if_neg c2,if_neg c2,if_pos (by omega)]
def estB(h:Bk)(zs:List Bk):Bk :=
 let e:=(nthB zs 0).add ((nthB zs 0).sub (nthB zs 1))
 (e.add e.conj).mul h
theorem u01.okAt{V:View}{s:Sl}{zs:List Bk}(h:u01 V s zs){i:Nat}(hi:i<zs.length):(nthB zs i).ok:=by
 have:=(h.get (t:=(i:Int)) (by omega) (by rw[Int.toNat_natCast]; exact hi)).2.2.2
 rw[Int.toNat_natCast]at this; exact this
theorem u01.at{V:View}{s:Sl}{zs:List Bk}(h:u01 V s zs){i:Nat}(hi:i<zs.length) :
 ((0:Int)<=(i:Int)/\((i:Int))<(zs.length:Nat)/\Option.isSome s.a=true)/\V.has (Option.map (λq=>Addr.add q (i*4)) s.a) (nthB zs i).v.val.cells.toList/\Option.isSome (Option.map (λq=>Addr.add q (i*4)) s.a)=true/\(nthB zs i).ok:=by
 have:=h.get (t:=(i:Int)) (by omega) (by rw[Int.toNat_natCast]; exact hi)
 rw[Int.toNat_natCast,h.len]at this; exact this
theorem u0j{x K:Nat}(h:0<K):x*K≠0↔x≠0:=by
 constructor
 . rintro g rfl; exact g (Nat.zero_mul _)
 . intro g e
   rcases Nat.mul_eq_zero.1 e with e|e
   . exact g e
   . omega
theorem O16{a d K E:Nat}:a / (d*2^E)=a*2^K / (d*2^(E+K))/\(a*2^K%(d*2^(E+K))≠0↔a%(d*2^E)≠0):=by
 have e:d*2^(E+K)=d*2^E*2^K:=by rw[Nat.pow_add,Nat.mul_assoc]
 rw[e,Nat.mul_div_mul_right _ _ (x07 K),Nat.mul_mod_mul_right]
 exact⟨rfl,u0j (x07 K)⟩
theorem s13{a d K E t:Nat}(h:E+t=K):a*2^E / d=a*2^K / (d*2^t)/\(a*2^K%(d*2^t)≠0↔a*2^E%d≠0):=by
 have e:a*2^K=a*2^E*2^t:=by rw[<-h,Nat.pow_add,Nat.mul_assoc]
 rw[e,Nat.mul_div_mul_right _ _ (x07 t),Nat.mul_mod_mul_right]
 exact⟨rfl,u0j (x07 t)⟩
theorem U0q{N D q:Nat}(hD:0<D)(hq:q=N / D):q / 2=N / (D*2)/\(N%(D*2)≠0↔(N%D≠0\/q%2=1)):=by
 subst hq
 refine⟨Nat.div_div_eq_div_mul ..,?_⟩
 rw[Nat.mod_mul]
 rcases Nat.mod_two_eq_zero_or_one (N / D)with h|h
 . rw[h]; omega
 . rw[h]; omega
structure Spl (a d K T q:Nat) (rest:Prop):Prop where
 quo:q=a*2^K / (d*2^T)
 rest:a*2^K%(d*2^T)≠0↔rest
 big:T=0\/2^52<=q
theorem Spl.congr{a d K T q:Nat}{rest rest':Prop}(h:Spl a d K T q rest)(e:rest↔rest'):Spl a d K T q rest':=⟨h.quo,h.rest.trans e,h.big⟩
theorem Y10{a d K T x y:Nat}(hd:0<d)(h1:2^(x-1)<=a)(h2:d<2^y)(hx:1<=x)(hT:T+y+53=x+K):2^52<=a*2^K / (d*2^T):=by
 rw[Nat.le_div_iff_mul_le (Nat.mul_pos hd (x07 T))]
 have a1:2^52*(d*2^T)<=2^52*(2^y*2^T):=Nat.mul_le_mul_left _ (Nat.mul_le_mul_right _ (by omega))
 have a2:2^(x-1)*2^K<=a*2^K:=Nat.mul_le_mul_right _ h1
 rw[<-Nat.pow_add,<-Nat.pow_add]at a1
 rw[<-Nat.pow_add]at a2
 have e:52+(y+T)=x-1+K:=by omega
 rw[e]at a1
 exact Nat.le_trans a1 a2
theorem M0t{a d K E q r:Nat}(hd:0<d)(hq:q=a / (d*2^E))(hr:r=a%(d*2^E))(hb:2^52<=a*2^K / (d*2^(E+1+K))) :
 Spl a d K (E+1+K) (q / 2) (r≠0\/q%2=1):=by
 have s:=U0q (N:=a) (D:=d*2^E) (Nat.mul_pos hd (x07 E)) hq
 have e:d*2^E*2=d*2^(E+1):=by rw[Nat.pow_succ,Nat.mul_assoc]
 rw[e]at s
 have u:=O16 (a:=a) (d:=d) (K:=K) (E:=E+1)
 refine⟨s.1.trans u.1,?_,.inr ?_⟩
 . rw[u.2,s.2,hr]
 . rw[s.1,u.1]; exact hb
theorem c0o{a d K E T q r:Nat}(hd:0<d)(hE:E+1+T=K+1)(hq:q=a*2^(E+1) / d)(hr:r=a*2^(E+1)%d)(hb:T=0\/2^52<=a*2^K / (d*2^T)) :
 Spl a d K T (q / 2) (r≠0\/q%2=1):=by
 have s:=U0q (N:=a*2^(E+1)) (D:=d) hd hq
 have u:=s13 (a:=a) (d:=d) (K:=K) (E:=E) (t:=T) (by omega)
 have e:a*2^(E+1)=a*2^E*2:=by rw[Nat.pow_succ,Nat.mul_assoc]
 have e1:a*2^(E+1) / (d*2)=a*2^E / d:=by rw[e]; exact Nat.mul_div_mul_right _ _ (by omega)
 have e2:a*2^(E+1)%(d*2)≠0↔a*2^E%d≠0:=by rw[e,Nat.mul_mod_mul_right]; exact u0j (by omega)
 refine⟨s.1.trans (e1.trans u.1),?_,?_⟩
 . rw[u.2,<-e2,s.2,hr]
 . rcases hb with h|h
   . exact .inl h
   . refine .inr ?_
     rw[s.1,e1,u.1]; exact h
theorem Spl.step{a d K T q:Nat}{rest:Prop}(hd:0<d)(h:Spl a d K T q rest)(hq:2^53<=q):Spl a d K (T+1) (q / 2) (rest\/q%2=1):=by
 have s:=U0q (N:=a*2^K) (D:=d*2^T) (Nat.mul_pos hd (x07 T)) h.quo
 have e:d*2^T*2=d*2^(T+1):=by rw[Nat.pow_succ,Nat.mul_assoc]
 rw[e]at s
 exact⟨s.1,by rw[s.2,h.rest],.inr (by omega)⟩
theorem Spl.core{a d K T m:Nat}{rest:Prop}(hd:0<d)(h:Spl a d K T m rest) :
 m*2^T*d<=a*2^K/\a*2^K<(m+1)*2^T*d/\(¬rest->m*2^T*d=a*2^K)/\(rest->m*2^T*d<a*2^K):=by
 have hr:=h.rest
 have hq:=h.quo
 have s:∀k:Nat,k*2^T*d=k*(d*2^T):=by intro k; ac_rfl
 rw[s,s]
 have hD:0<d*2^T:=Nat.mul_pos hd (x07 T)
 generalize d*2^T=D at *
 generalize a*2^K=N at *
 have f:=Nat.div_add_mod N D
 have g:=Nat.mod_lt N hD
 rw[<-hq]at f
 rw[Nat.add_mul,Nat.one_mul,Nat.mul_comm m D]
 refine⟨by omega,by omega,λn => ?_,λy => ?_⟩
 . have z:N%D=0:=Classical.byContradiction λc=>n (hr.1 c)
   omega
 . have z:N%D≠0:=hr.2 y
   omega
theorem K0y{a b:Nat}(h:a<=b):2^a<=2^b:=Nat.pow_le_pow_right (by omega) h
theorem Spl.over{a d K T m:Nat}{rest:Prop}(hd:0<d)(h:Spl a d K T m rest)(hT:2046<=T):rm infR*d<=a*2^K:=by
 obtain⟨g,hg⟩:∃g,g=2046:=⟨_,rfl⟩
 rw[f0m hg,Nat.pow_add]
 have hb:2^52<=m:=by rcases h.big with b|b<;>omega
 refine Nat.le_trans (Nat.mul_le_mul_right d ?_) (h.core hd).1
 exact Nat.mul_le_mul hb (K0y (by omega))
theorem T05.spl{r n d K:Nat}(hK:K=1074)(lt:r<infR)(le:rm r*d<=n*2^K)(next:n*2^K<rm (r+1)*d):T05 r n d:=by
 subst hK; exact⟨lt,le,.inr next⟩
theorem IsUp.spl{r n d K:Nat}(hK:K=1074)(le:r<=infR)(ge:n*2^K<=rm r*d)(prev:r=0\/rm (r-1)*d<n*2^K):IsUp r n d:=by
 subst hK; exact⟨le,.inr ge,prev⟩
theorem T05.most'{n d K:Nat}(hK:K=1074)(h:rm infR*d<=n*2^K):T05 (infR-1) n d:=by subst hK; exact T05.most h
theorem IsUp.most'{n d K:Nat}(hK:K=1074)(hd:0<d)(h:rm infR*d<=n*2^K):IsUp infR n d:=by subst hK; exact IsUp.most hd h
theorem Spl.rung{a d K T m:Nat}{rest:Prop}(h:Spl a d K T m rest)(hm:m<2^53):rm (T*2^52+m)=m*2^T/\rm (T*2^52+m+1)=(m+1)*2^T:=by
 have b:=h.big
 exact⟨q0d ⟨b,by omega⟩,by rw[Nat.add_assoc]; exact q0d ⟨by omega,by omega⟩⟩
theorem j0v{T m:Nat}(hT:T<=2045)(hm:m<2^53):T*2^52+m<infR:=by unfold infR; omega
theorem Spl.isDown{a d K T m:Nat}{rest:Prop}(hK:K=1074)(hd:0<d)(h:Spl a d K T m rest)(hm:m<2^53)(hT:T<=2045):T05 (T*2^52+m) a d:=by
 have r:=h.rung hm; have c:=h.core hd
 exact .spl hK (j0v hT hm) (by rw[r.1]; exact c.1) (by rw[r.2]; exact c.2.1)
theorem Spl.isUp{a d K T m:Nat}{rest:Prop}(hK:K=1074)(hd:0<d)(h:Spl a d K T m rest)(hm:m<2^53)(hT:T<=2045)(hr:¬rest):IsUp (T*2^52+m) a d:=by
 have r:=h.rung hm; have c:=(h.core hd).2.2.1 hr
 refine .spl hK (Nat.le_of_lt (j0v hT hm)) (by rw[r.1,c]; exact Nat.le_refl _) ?_
 by_cases z:T*2^52+m=0
 . exact .inl z
 . refine .inr ?_
   rw[<-c,<-r.1]
   exact Nat.mul_lt_mul_of_pos_right (b0m (by omega)) hd
theorem Spl.isUp1{a d K T m:Nat}{rest:Prop}(hK:K=1074)(hd:0<d)(h:Spl a d K T m rest)(hm:m<2^53)(hT:T<=2045)(hr:rest):IsUp (T*2^52+m+1) a d:=by
 have r:=h.rung hm; have c:=h.core hd
 refine .spl hK (j0v hT hm) (by rw[r.2]; exact Nat.le_of_lt c.2.1) (.inr ?_)
 rw[Nat.add_sub_cancel,r.1]
 exact c.2.2.2 hr
theorem Bk.hull_ok{b c:Bk}(h:b.ok)(k:c.ok):(b.hull c).ok:=⟨Sk.hull_ok h.re k.re,Sk.hull_ok h.im k.im⟩
theorem P16(k:Nat):((2^k:Nat):Rat)≠0:=i0b (by have:0<2^k:=Nat.pow_pos (by omega); omega)
theorem u13(k:Nat):(0:Rat)<((2^k:Nat):Rat):=by
 have:0<2^k:=Nat.pow_pos (by omega)
 exact_mod_cast this
theorem s15{a:Int}{D:Nat}{q:Rat}(hD:D≠0):(a:Rat) / (D:Rat)<q↔a*(q.den:Int)<q.num*(D:Int):=by
 have h1:q=(q.num:Rat) / (q.den:Rat):=by rw[<-Rat.mkRat_eq_div]; exact(Rat.mkRat_self q).symm
 have hd : (0 : Rat) < (q.den : Rat) := by have : 0 < q.den := by have := q.den_nz; omega
                                           exact_mod_cast this
 have hD' : (0 : Rat) < (D : Rat) := by have : 0 < D := by omega
                                        exact_mod_cast this
 have e1:(a:Rat) / (D:Rat)<q↔(a:Rat)*(q.den:Rat)<(q.num:Rat)*(D:Rat):=by
  conv=>lhs; rw[h1]
  rw[Rat.div_lt_iff hD',Rat.div_def,Rat.mul_assoc,Rat.mul_comm (q.den:Rat)⁻¹,<-Rat.mul_assoc,<-Rat.div_def,Rat.lt_div_iff hd]
 rw[e1]; exact_mod_cast Iff.rfl
theorem u15{a:Int}{D:Nat}{q:Rat}(hD:D≠0):q<(a:Rat) / (D:Rat)↔q.num*(D:Int)<a*(q.den:Int):=by
 have h1:q=(q.num:Rat) / (q.den:Rat):=by rw[<-Rat.mkRat_eq_div]; exact(Rat.mkRat_self q).symm
 have hd : (0 : Rat) < (q.den : Rat) := by have : 0 < q.den := by have := q.den_nz; omega
                                           exact_mod_cast this
 have hD' : (0 : Rat) < (D : Rat) := by have : 0 < D := by omega
                                        exact_mod_cast this
 have e1:q<(a:Rat) / (D:Rat)↔(q.num:Rat)*(D:Rat)<(a:Rat)*(q.den:Rat):=by
  conv=>lhs; rw[h1]
  rw[Rat.lt_div_iff hD',Rat.div_def,Rat.mul_assoc,Rat.mul_comm (q.den:Rat)⁻¹,<-Rat.mul_assoc,<-Rat.div_def,Rat.div_lt_iff hd]
 rw[e1]; exact_mod_cast Iff.rfl
theorem b0w(k:Nat):2^k≠0:=Nat.pos_iff_ne_zero.1 (Nat.pow_pos (by omega))
theorem Z10{k:Int}{q:Rat}:q<fkq k↔q.num*((2^1074:Nat):Int)<kz k*(q.den:Int):=u15 (a:=kz k) (b0w 1074)
theorem C14(r:Nat):kz (r:Int)=(rm r:Int):=by unfold kz; rw[if_neg (by omega),Int.natAbs_natCast]
theorem j0m{k:Int}(h:k.natAbs<infR):endE k=⟨0,fkq k⟩:=by
 unfold endE; rw[if_neg (by omega),if_neg (by omega)]
theorem u0h(q:Rat):¬Eb.LT ⟨0,q⟩ (endE (Z08 q)):=by
 have hd:0<q.den:=by have:=q.den_nz; omega
 obtain⟨T,hT⟩:∃T:Nat,T=2^1074:=⟨_,rfl⟩
 unfold Z08
 by_cases c:0<=q.num
 . rw[if_pos c]
   have h:=X05 (n:=q.num.natAbs) hd
   rw[j0m (by rw[Int.natAbs_natCast]; exact h.lt)]
   rintro(g|⟨_,_,g⟩)
   . exact absurd g (Int.lt_irrefl 0)
   . have g:q<fkq ((A0c q.num.natAbs q.den:Nat):Int):=g
     rw[Z10,C14]at g
     have hle:=h.le
     rw[<-hT]at g hle
     have e:q.num=(q.num.natAbs:Int):=by omega
     rw[e]at g
     have g2:q.num.natAbs*T<rm (A0c q.num.natAbs q.den)*q.den:=by exact_mod_cast g
     omega
 . rw[if_neg c]
   have h:=G07 (n:=q.num.natAbs) hd
   by_cases z:upK q.num.natAbs q.den=infR
   . rw[z]
     have e:endE (-(infR:Int))=⟨-1,0⟩:=by unfold endE; rw[if_neg (by decide),if_pos rfl]
     rw[e]
     rintro(g|⟨_,g,_⟩)
     . exact absurd g (by show ¬(0:Int) < -1; decide)
     . exact absurd g (by show ¬(-1:Int)=0; decide)
   . have hle:=h.le
     rw[j0m (by rw[Int.natAbs_neg,Int.natAbs_natCast]; omega)]
     rintro(g|⟨_,_,g⟩)
     . exact absurd g (Int.lt_irrefl 0)
     . have g:q<fkq (-((upK q.num.natAbs q.den:Nat):Int)):=g
       rw[Z10,A14,C14]at g
       rcases h.ge with h2|h2
       . exact z h2
       . rw[<-hT]at g h2
         have e:q.num*(T:Int) = -((q.num.natAbs*T:Nat):Int):=by
          rw[Int.natCast_mul,<-Int.neg_mul]
          exact congrArg (λx=>x*(T:Int)) (by omega)
         rw[e,Int.neg_mul]at g
         have g2:((rm (upK q.num.natAbs q.den)*q.den:Nat):Int)<((q.num.natAbs*T:Nat):Int):=by
          rw[Int.natCast_mul]; omega
         have:=Int.ofNat_lt.1 g2
         omega
theorem k0v(q:Rat):¬Eb.LT (endE (f0a q)) ⟨0,q⟩:=by
 intro h
 rw[<-Eb.LT_neg]at h
 have e:(⟨0,q⟩:Eb).neg=⟨0,-q⟩:=by unfold Eb.neg; simp
 rw[e,<-Y0k,<-t0j]at h
 exact u0h (-q) h
theorem a11{k l:Int}(hk:inK k)(hl:inK l)(h:k<l):Eb.LT (endE k) (endE l):=by
 unfold inK at hk hl
 unfold endE
 rw[if_neg (by omega:¬k=(infR:Int))]
 by_cases a:k = -(infR:Int)
 . rw[if_pos a]
   by_cases b:l=(infR:Int)
   . rw[if_pos b]; exact .inl (by decide)
   . rw[if_neg b,if_neg (by omega)]; exact .inl (by show(-1:Int)<0; decide)
 . rw[if_neg a]
   by_cases b:l=(infR:Int)
   . rw[if_pos b]; exact .inl (by show(0:Int)<1; decide)
   . rw[if_neg b,if_neg (by omega)]
     refine .inr ⟨rfl,rfl,?_⟩
     show fkq k<fkq l
     unfold fkq
     rw[Rat.div_lt_iff (u13 1074),Rat.div_mul_cancel (P16 1074)]
     exact_mod_cast n15 h
theorem w15{k l:Int}(hk:inK k)(hl:inK l)(h:¬Eb.LT (endE l) (endE k)):k<=l:=Int.not_lt.1 λg=>h (a11 hl hk g)
theorem c0w{q:Rat}{k:Int}(hk:k.natAbs<infR)(h:fkq k=q):Z08 q=k/\f0a q=k:=by
 have hd:0<q.den:=by have:=q.den_nz; omega
 obtain⟨T,hT⟩:∃T:Nat,T=2^1074:=⟨_,rfl⟩
 have hx:kz k*(q.den:Int)=q.num*(T:Int):=by
  have a1:¬q<fkq k:=by rw[h]; exact Rat.lt_irrefl
  have a2:¬fkq k<q:=by rw[h]; exact Rat.lt_irrefl
  rw[Z10]at a1
  have a2:¬kz k*(q.den:Int)<q.num*((2^1074:Nat):Int):=λg=>a2 ((s15 (a:=kz k) (b0w 1074)).2 g)
  rw[<-hT]at a1 a2
  omega
 have hz:kz k=if k<0 then -(rm k.natAbs:Int)else(rm k.natAbs:Int):=rfl
 have hdi:(0:Int)<(q.den:Int):=by omega
 have hTi:(0:Int)<(T:Int):=by have:=b0w 1074; rw[<-hT]at this; omega
 have key:rm k.natAbs*q.den=q.num.natAbs*T:=by
  have:=congrArg Int.natAbs hx
  rw[Int.natAbs_mul,Int.natAbs_mul,Int.natAbs_natCast,Int.natAbs_natCast]at this
  have e:(kz k).natAbs=rm k.natAbs:=by rw[hz]; split<;>omega
  rw[e]at this; exact this
 have hD:T05 k.natAbs q.num.natAbs q.den:=by
  refine⟨hk,?_,.inr ?_⟩
  . rw[<-hT]; omega
  . rw[<-hT,<-key]; exact Nat.mul_lt_mul_of_pos_right (b0m (by omega)) hd
 have hU:IsUp k.natAbs q.num.natAbs q.den:=by
  refine⟨by omega,.inr ?_,?_⟩
  . rw[<-hT]; omega
  . by_cases z:k.natAbs=0
    . exact .inl z
    . refine .inr ?_
      rw[<-hT,<-key]; exact Nat.mul_lt_mul_of_pos_right (b0m (by omega)) hd
 have e1:=hD.unique hd (X05 hd)
 have e2:=hU.unique hd (G07 hd)
 have sg:0<=q.num↔0<=k\/k=0:=by
  constructor
  . intro c
    refine Classical.byContradiction λg => ?_
    have kn:k<0:=by omega
    have p:0<rm k.natAbs:=H10 (by omega)
    rw[hz,if_pos kn]at hx
    have a:(0:Int)<(rm k.natAbs:Int)*(q.den:Int):=Int.mul_pos (by omega) hdi
    have b:(0:Int)<=q.num*(T:Int):=Int.mul_nonneg c (by omega)
    rw[Int.neg_mul]at hx; omega
  . intro c
    have kn:¬k<0:=by omega
    rw[hz,if_neg kn]at hx
    refine Int.not_lt.1 λg => ?_
    have a:q.num*(T:Int)<0:=Int.mul_neg_of_neg_of_pos g hTi
    have b:(0:Int)<=(rm k.natAbs:Int)*(q.den:Int):=Int.mul_nonneg (by omega) (by omega)
    omega
 unfold Z08 f0a
 by_cases c:0<=q.num
 . have:=sg.1 c
   rw[if_pos c,if_pos c,<-e1,<-e2]; omega
 . have:¬(0<=k\/k=0):=λg=>c (sg.2 g)
   rw[if_neg c,if_neg c,<-e1,<-e2]; omega
theorem w13:endE (infR:Int)=⟨1,0⟩:=by unfold endE; rw[if_pos rfl]
theorem y15(q:Rat):(⟨0,q⟩:Eb).neg=⟨0,-q⟩:=by unfold Eb.neg; simp
theorem Q16{a b:Rat}:Eb.LT ⟨0,a⟩ ⟨0,b⟩↔a<b:=by
 constructor
 . rintro(h|⟨_,_,h⟩)
   . exact absurd h (Int.lt_irrefl 0)
   . exact h
 . exact λh => .inr ⟨rfl,rfl,h⟩
theorem y13:fkq 0=0:=by
 unfold fkq
 have:kz 0=0:=by decide
 rw[this,Rat.div_def]; exact Rat.zero_mul _
theorem b11:endE 0=Eb.fin 0:=by
 rw[j0m (by decide),y13]; rfl
theorem z13{s:Sk}(h:s.ok)(p:s.proper):s.set.span=s:=by
 have key1:(if(endE s.lo).inf=0 then Z08 (endE s.lo).x else -(infR:Int))=s.lo:=by
  have a:=h.lo; unfold inK at a
  by_cases c:s.lo = -(infR:Int)
  . have e:endE s.lo=⟨-1,0⟩:=by unfold endE; rw[if_neg p.2.1,if_pos c]
    rw[e,if_neg (by decide),c]
  . have hn:=p.2.1
    rw[j0m (by omega),if_pos rfl]
    exact(c0w (by omega) rfl).1
 have key2:(if(endE s.hi).inf=0 then f0a (endE s.hi).x else(infR:Int))=s.hi:=by
  have a:=h.hi; unfold inK at a
  by_cases c:s.hi=(infR:Int)
  . have e:endE s.hi=⟨1,0⟩:=by unfold endE; rw[if_pos c]
    rw[e,if_neg (by decide),c]
  . have hn:=p.2.2
    rw[j0m (by omega),if_pos rfl]
    exact(c0w (by omega) rfl).2
 show Sk.mk _ _=s
 rw[show(if s.set.lo.inf=0 then Z08 s.set.lo.x else -(infR:Int))=s.lo from key1,show(if s.set.hi.inf=0 then f0a s.set.hi.x else(infR:Int))=s.hi from key2]
theorem k0m{e:Eb}(h:e.ok):(Eb.fin 0).add e=e:=by
 unfold Eb.add
 rw[if_neg (by decide)]
 by_cases c:e.inf=0
 . rw[if_neg (by omega)]
   cases e
   dsimp only at c ⊢
   rw[c]
   congr 1
   show(0:Rat)+_=_
   grind
 . rw[if_pos c]
theorem A13{s:Sk}(h:s.ok)(p:s.proper):(Sk.nil.set.add s.set.neg).span=s.neg:=by
 have e:Sk.nil.set.add s.set.neg=s.set.neg:=by
  show Es.mk ((endE 0).add (endE s.hi).neg) ((endE 0).add (endE s.lo).neg)=_
  rw[b11,k0m (Eb.neg_ok (N0q _)),k0m (Eb.neg_ok (N0q _))]; rfl
 rw[e,b0n,z13 h p]
-- a bound is not above another one
def Eb.Le(a b:Eb):Prop:=¬Eb.LT b a
theorem Eb.Le.trans{a b c:Eb}(h:a.Le b)(k:b.Le c):a.Le c:=λg=>by
 rcases Eb.LT.weak (b:=b) g with p|p
 . exact k p
 . exact h p
theorem Eb.Le.refl(a:Eb):a.Le a:=Eb.LT.irrefl
theorem D14{a b:Rat}:Eb.Le ⟨0,a⟩ ⟨0,b⟩↔a<=b:=by unfold Eb.Le; rw[Q16]; exact⟨λh=>Rat.not_lt.1 h,λh=>Rat.not_lt.2 h⟩
theorem W0q{a:Eb}(_:a.ok)(x:Rat):Eb.Le ⟨-1,x⟩ a:=by
 rcases D0h ‹a.ok› with h|h|h
 . rintro(g|⟨_,g,_⟩)
   . have:a.inf < -1:=g; omega
   . exact absurd g (by show ¬(-1:Int)=0; decide)
 . rintro(g|⟨_,g,_⟩)
   . have:a.inf < -1:=g; omega
   . exact absurd g (by show ¬(-1:Int)=0; decide)
 . rintro(g|⟨_,g,_⟩)
   . have:a.inf < -1:=g; omega
   . exact absurd g (by show ¬(-1:Int)=0; decide)
theorem d11{e:Eb}(h:e.inf=0):e=⟨0,e.x⟩:=by cases e; dsimp only at h; rw[h]
theorem E14{e:Eb}(ho:e.ok)(h:e.inf≠0):e=⟨1,0⟩\/e=⟨-1,0⟩:=by
 rcases ho with g|⟨g,g2|g2⟩
 . exact absurd g h
 . left; cases e; dsimp only at g g2; rw[g,g2]
 . right; cases e; dsimp only at g g2; rw[g,g2]
theorem d0w:endE (-(infR:Int))=⟨-1,0⟩:=by unfold endE; rw[if_neg (by decide),if_pos rfl]
-- numbers about roots
theorem e0w{a b:Eb}(ha:a.inf=0)(hb:b.inf=0)(h:Eb.Le a b):a.x<=b.x:=by
 rw[d11 ha,d11 hb,D14]at h; exact h
theorem Y0s{k l:Int}(hk:inK k)(hl:inK l)(h:k<=l):Eb.Le (endE k) (endE l):=by
 rcases Int.lt_or_eq_of_le h with q|q
 . intro g; exact Eb.LT.irrefl (g.trans (a11 hk hl q))
 . rw[q]; exact Eb.Le.refl _
theorem l0v{a b:Eb}(ha:a.inf=0)(hb:b.inf=0):a.add b=⟨0,a.x+b.x⟩:=by unfold Eb.add; rw[if_neg (by omega),if_neg (by omega)]
theorem B13{a b:Eb}(ha:a.inf≠0):a.add b=a:=by unfold Eb.add; rw[if_pos ha]
theorem C13{a b:Eb}(ha:a.inf=0)(hb:b.inf≠0):a.add b=b:=by unfold Eb.add; rw[if_neg (by omega),if_pos hb]
section
end
def InE(a:Eb)(E:Es):Prop:=Eb.Le E.lo a/\Eb.Le a E.hi
structure Es.ok (E:Es):Prop where
 lo:E.lo.ok
 hi:E.hi.ok
theorem f0k(s:Sk):s.set.ok:=⟨N0q _,N0q _⟩
theorem e11{a b:Es}(h:a.ok)(k:b.ok):(a.add b).ok:=⟨Eb.add_ok h.lo k.lo,Eb.add_ok h.hi k.hi⟩
theorem U0o{a b:Eb}:Eb.Le a.neg b.neg↔Eb.Le b a:=by unfold Eb.Le; rw[Eb.LT_neg]
theorem InE.neg{a:Eb}{E:Es}(h:InE a E):InE a.neg E.neg:=⟨U0o.2 h.2,U0o.2 h.1⟩
theorem f0w{a b c d:Eb}(ha:a.ok)(hb:b.ok)(hc:c.ok)(hd:d.ok)(na:a.inf<=0)(nb:b.inf<=0)(nc:c.inf<=0)(nd:d.inf<=0)(h:Eb.Le a c)(k:Eb.Le b d):Eb.Le (a.add b) (c.add d):=by
 by_cases ia:a.inf=0
 . by_cases ib:b.inf=0
   · have ic : c.inf = 0 := by have : a.inf ≤ c.inf := Int.not_lt.1 fun g => h (.inl g)
                               omega
     have id : d.inf = 0 := by have : b.inf ≤ d.inf := Int.not_lt.1 fun g => k (.inl g)
                               omega
     rw[l0v ia ib,l0v ic id,D14]
     have h1:=e0w ia ic h
     have h2:=e0w ib id k
     grind
   . rw[C13 ia ib]
     rcases E14 hb ib with e|e
     . rw[e]at nb; exact absurd nb (by decide)
     . rw[e]; exact W0q (Eb.add_ok hc hd) 0
 . rw[B13 ia]
   rcases E14 ha ia with e|e
   . rw[e]at na; exact absurd na (by decide)
   . rw[e]; exact W0q (Eb.add_ok hc hd) 0
theorem f11{a b c d:Eb}(ha:a.ok)(hb:b.ok)(hc:c.ok)(hd:d.ok)(na:0<=a.inf)(nb:0<=b.inf)(nc:0<=c.inf)(nd:0<=d.inf)(h:Eb.Le a c)(k:Eb.Le b d):Eb.Le (a.add b) (c.add d):=by
 rw[<-U0o,Eb.neg_add,Eb.neg_add]
 exact f0w (Eb.neg_ok hc) (Eb.neg_ok hd) (Eb.neg_ok ha) (Eb.neg_ok hb) (by show -c.inf<=0; omega) (by show -d.inf<=0; omega) (by show -a.inf<=0; omega) (by show -b.inf<=0; omega) (U0o.2 h) (U0o.2 k)
def Es.fair(E:Es):Prop:=E.lo.inf<=0/\0<=E.hi.inf
theorem m0v{a:Eb}{E:Es}(ha:a.inf=0)(h:InE a E):E.fair:=by
 refine⟨?_,?_⟩
 . have:=λg=>h.1 (.inl g); rw[ha]at this; exact Int.not_lt.1 this
 . have:=λg=>h.2 (.inl g); rw[ha]at this; exact Int.not_lt.1 this
theorem InE.add{x y:Rat}{E F:Es}(hE:E.ok)(hF:F.ok)(h:InE ⟨0,x⟩ E)(k:InE ⟨0,y⟩ F):InE ⟨0,x+y⟩ (E.add F):=by
 have fE:=m0v rfl h; have fF:=m0v rfl k
 have e:(⟨0,x⟩:Eb).add ⟨0,y⟩=⟨0,x+y⟩:=l0v rfl rfl
 rw[<-e]
 exact⟨f0w hE.lo hF.lo (.inl rfl) (.inl rfl) fE.1 fF.1 (Int.le_refl _) (Int.le_refl _) h.1 k.1,f11 (.inl rfl) (.inl rfl) hE.hi hF.hi (Int.le_refl _) (Int.le_refl _) fE.2 fF.2 h.2 k.2⟩
theorem Z0s{a b:Eb}:a.cmp b<=0↔Eb.Le a b:=by
 have r:=Eb.cmp_range a b
 unfold Eb.Le; rw[<-Eb.cmp_1]; omega
theorem W0o{s:Sk}{q:Rat}:s.has q=true↔InE ⟨0,q⟩ s.set:=by
 unfold Sk.has InE; rw[Bool.and_eq_true,decide_eq_true_iff,decide_eq_true_iff,Z0s,Z0s]; rfl
theorem X0o{E:Es}(oE:E.lo.ok)(fE:E.lo.inf<=0):Eb.Le (endE E.span.lo) E.lo:=by
 show Eb.Le (endE (if E.lo.inf=0 then Z08 E.lo.x else -(infR:Int))) E.lo
 by_cases c:E.lo.inf=0
 . rw[if_pos c]
   have:=u0h E.lo.x
   rw[<-d11 c]at this; exact this
 . rw[if_neg c,d0w]; exact W0q oE 0
theorem g11{E:Es}(oE:E.ok){q:Rat}(h:InE ⟨0,q⟩ E):InE ⟨0,q⟩ E.span.set:=by
 have f:=m0v rfl h
 refine⟨(X0o oE.lo f.1).trans h.1,?_⟩
 have:=X0o (E:=E.neg) (Eb.neg_ok oE.hi) (by show -E.hi.inf<=0; have:=f.2; omega)
 rw[b0n]at this
 have this:Eb.Le (endE (-E.span.hi)) E.hi.neg:=this
 rw[Y0k,U0o]at this
 exact h.2.trans this
theorem a0t{b:Bk}{z:Cq}:b.has z=true↔InE ⟨0,z.re⟩ b.re.set/\InE ⟨0,z.im⟩ b.im.set:=by
 unfold Bk.has; rw[Bool.and_eq_true,W0o,W0o]
theorem w17{E F:Es}(oE:E.ok)(oF:F.ok){z:Cq}(h:InE ⟨0,z.re⟩ E)(k:InE ⟨0,z.im⟩ F):Bk.has ⟨E.span,F.span⟩ z=true:=a0t.2 ⟨g11 oE h,g11 oF k⟩
theorem Y0o{s:Sk}{q:Rat}(h:InE ⟨0,q⟩ s.set):InE ⟨0,-q⟩ s.set.neg:=by
 have:=h.neg; rwa[y15]at this
theorem z15{b:Bk}{z:Cq}(h:b.has z=true):b.neg.has (-z)=true:=by
 obtain⟨h1,h2⟩:=a0t.1 h
 refine a0t.2 ⟨?_,?_⟩
 . show InE ⟨0,-z.re⟩ b.re.neg.set; rw[y0g]; exact Y0o h1
 . show InE ⟨0,-z.im⟩ b.im.neg.set; rw[y0g]; exact Y0o h2
theorem i11{b c:Bk}{z w:Cq}(h:b.has z=true)(k:c.has w=true):(b.add c).has (z+w)=true:=by
 obtain⟨h1,h2⟩:=a0t.1 h
 obtain⟨k1,k2⟩:=a0t.1 k
 exact w17 (e11 (f0k _) (f0k _)) (e11 (f0k _) (f0k _)) (InE.add (f0k _) (f0k _) h1 k1) (InE.add (f0k _) (f0k _) h2 k2)
theorem A15(z w:Cq):z-w=z + -w:=Cq.ext' (by rw[W0m,S0f,d0e]; grind) (by rw[X0m,T0f,e0e]; grind)
theorem B15{b c:Bk}{z w:Cq}(h:b.has z=true)(k:c.has w=true):(b.sub c).has (z-w)=true:=by
 rw[Bk.sub_eq,A15]; exact i11 h (z15 k)
def gpos(n f i:Nat):Nat:=if f<=i then i-f else i+n-f
def inG(n f c i:Nat):Bool:=decide (gpos n f i<c)
theorem g0w{n f i j:Nat}(hf:f<n)(hi:i<n)(hj:j<n):gpos n f i=j↔i=(f+j)%n:=by
 have e:(f+j)%n=if f+j<n then f+j else f+j-n:=by
  split
  . exact Nat.mod_eq_of_lt (by omega)
  . rw[Nat.mod_eq_sub_mod (by omega),Nat.mod_eq_of_lt (by omega)]
 rw[e]; unfold gpos
 split<;>split<;>omega
def s09(n f c:Nat):List Bool:=(List.range n).map (inG n f c)
theorem Z0o(n f:Nat):s09 n f 0=List.replicate n false:=by
 apply List.ext_getElem (by simp[s09])
 intro i h1 h2
 simp[s09,inG]
theorem b0t{n f j:Nat}(hf:f<n)(hj:j<n):(s09 n f j).set ((f+j)%n) true=s09 n f (j+1):=by
 apply List.ext_getElem (by simp[s09])
 intro i h1 h2
 have hi:i<n:=by simpa [s09]using h2
 simp only[s09,List.getElem_set,List.getElem_map,List.getElem_range,inG]
 by_cases e:(f+j)%n=i
 . have:gpos n f i=j:=(g0w hf hi hj).2 e.symm
   rw[if_pos e,this]; simp
 . have:gpos n f i≠j:=λh=>e ((g0w hf hi hj).1 h).symm
   rw[if_neg e]
   congr 1
   have:(gpos n f i<j)↔(gpos n f i<j+1):=by omega
   exact propext this
def cd(n k j:Nat):Nat :=
 if k<j then(if n-(j-k)<j-k then n-(j-k)else j-k)else(if n-(k-j)<k-j then n-(k-j)else k-j)
def nrP(B:Nat->Bool)(n:Nat)(g:Int)(k m:Nat):Bool:=(List.range m).any λj=>B j && !B k&&decide ((cd n k j:Int)<=g)
theorem i0w(B:Nat->Bool)(n:Nat)(g:Int)(k:Nat):nrP B n g k 0=false:=rfl
theorem j0w(B:Nat->Bool)(n:Nat)(g:Int)(k m:Nat):nrP B n g k (m+1)=(nrP B n g k m||(B m && !B k&&decide ((cd n k m:Int)<=g))):=by
 unfold nrP; rw[List.range_succ,List.any_append]; simp
theorem Z0k{B:Nat->Bool}{n:Nat}{g:Int}{k m:Nat}:nrP B n g k m=true↔∃j,j<m/\B j=true/\B k=false/\(cd n k j:Int)<=g:=by
 unfold nrP
 simp only[List.any_eq_true,List.mem_range,Bool.and_eq_true,Bool.not_eq_true',decide_eq_true_eq]
 constructor
 . rintro⟨j,h1,⟨h2,h3⟩,h4⟩; exact⟨j,h1,h2,h3,h4⟩
 . rintro⟨j,h1,h2,h3,h4⟩; exact⟨j,h1,⟨h2,h3⟩,h4⟩
theorem X0q{n k d:Nat}(hk:k<n)(hd:d<=n):(k+d)%n=if k+d<n then k+d else k+d-n:=by
 split
 . exact Nat.mod_eq_of_lt (by omega)
 . rw[Nat.mod_eq_sub_mod (by omega),Nat.mod_eq_of_lt (by omega)]
theorem n0v{n k d:Nat}(_hk:k<n)(h1:1<=d)(hd:d<=n):(k+n*d-d)%n=(k+(n-d))%n:=by
 obtain⟨e,rfl⟩:∃e,d=e+1:=⟨d-1,by omega⟩
 have:k+n*(e+1)-(e+1)=k+(n-(e+1))+n*e:=by rw[Nat.mul_add,Nat.mul_one]; omega
 rw[this,Nat.add_mul_mod_self_left]
theorem y17{n k d:Nat}(hk:k<n)(h1:1<=d)(hd:d<n):cd n k ((k+d)%n)<=d:=by
 rw[X0q hk (by omega)]; unfold cd
 split<;>split<;>split<;>omega
theorem C15{n k d:Nat}(hk:k<n)(h1:1<=d)(hd:d<n):cd n k ((k+(n-d))%n)<=d:=by
 rw[X0q hk (by omega)]; unfold cd
 split<;>split<;>split<;>omega
theorem S16{n k j:Nat}(hk:k<n)(hj:j<n)(hne:j≠k):1<=cd n k j/\cd n k j<n/\((k+cd n k j)%n=j\/(k+(n-cd n k j))%n=j):=by
 have h1:1<=cd n k j/\cd n k j<n:=by unfold cd; split<;>split<;>omega
 refine⟨h1.1,h1.2,?_⟩
 rw[X0q hk (by omega),X0q hk (by omega)]
 have hc:(k<j/\(cd n k j=n-(j-k)\/cd n k j=j-k))\/(j<k/\(cd n k j=n-(k-j)\/cd n k j=k-j)):=by
  unfold cd
  split
  . split<;>omega
  . split<;>omega
 generalize cd n k j=c at h1 hc ⊢
 by_cases a1:k+c<n
 . rw[if_pos a1]
   by_cases a2:k+(n-c)<n
   . rw[if_pos a2]; omega
   . rw[if_neg a2]; omega
 . rw[if_neg a1]
   by_cases a2:k+(n-c)<n
   . rw[if_pos a2]; omega
   . rw[if_neg a2]; omega
theorem a0p{B:Nat->Bool}{n k d:Nat}{g:Int}(hk:k<n)(hB:B k=false)(h1:1<=d)(hd:d<=n)(hg:(d:Int)<=g)(h:B ((k+d)%n)=true\/B ((k+n*d-d)%n)=true):nrP B n g k n=true:=by
 have hn:0<n:=by omega
 by_cases e:d=n
 . subst e
   rw[n0v hk h1 hd]at h
   rw[Nat.add_mod_right,Nat.sub_self,Nat.add_zero,Nat.mod_eq_of_lt hk,hB]at h
   simp at h
 . rw[n0v hk h1 hd]at h
   rcases h with h|h
   . exact Z0k.2 ⟨_,Nat.mod_lt _ hn,h,hB,by have:=y17 hk h1 (by omega:d<n); omega⟩
   . exact Z0k.2 ⟨_,Nat.mod_lt _ hn,h,hB,by have:=C15 hk h1 (by omega:d<n); omega⟩
theorem j11{B:Nat->Bool}{n k:Nat}{g:Int}(hk:k<n)(h:∀d:Nat,1<=d->(d:Int)<=g->d<=n->B ((k+d)%n)=false/\B ((k+n*d-d)%n)=false):nrP B n g k n=false:=by
 cases e:nrP B n g k n with
 | false=>rfl
 | true =>
   obtain⟨j,hj,h1,h2,h3⟩:=Z0k.1 e
   have hne:j≠k:=by rintro rfl; rw[h1]at h2; simp at h2
   obtain⟨c1,c2,c3⟩:=S16 hk hj hne
   obtain⟨g1,g2⟩:=h _ c1 h3 (by omega)
   rw[n0v hk c1 (by omega)]at g2
   rcases c3 with c3|c3
   . rw[c3,h1]at g1; simp at g1
   . rw[c3,h1]at g2; simp at g2
