/- Part. -/
import Derived.Test.YtjadnpidefnpoaaGreatGSc5
import Derived.WalkKit
import Derived.ProofKit
import Derived.OpenShut
import Derived.IntWalk
import GoSem.Core.Float
namespace Go.Vc
open Go Go.RowKit
open Go.IntKind (i64 u64 u32 u8)
def wval:List Nat->Nat
 | []=>0
 | d::l=>d+4294967296*wval l
def dig(n:Nat):List Nat:=if h:n=0 then []else n%4294967296::dig (n / 4294967296)
termination_by n
decreasing_by omega
def WB(l:List Nat):Prop:=∀d∈l,d<4294967296
def wv(l:List Nat):List Value:=l.map λ(d:Nat)=>Value.int .u32 (d:Int)
theorem n06:dig 0=[]:=by rw[dig]; simp
theorem T07{n:Nat}(h:n≠0):dig n=n%4294967296::dig (n / 4294967296):=by rw[dig]; simp[h]
theorem i04(n:Nat):wval (dig n)=n:=by
 induction n using Nat.strongRecOn with
 | _ n ih =>
   by_cases h:n=0
   . subst h; simp[n06,wval]
   rw[T07 h,wval,ih _ (by omega)]; omega
theorem L08(n:Nat):WB (dig n):=by
 induction n using Nat.strongRecOn with
 | _ n ih =>
   by_cases h:n=0
   . subst h; simp[n06,WB]
   rw[T07 h];intro d hd;rcases Bq.1 hd with rfl|hd
   . omega
   exact ih _ (by omega) d hd
theorem Z0f(a b:List Nat):wval (a++b)=wval a+4294967296^a.length*wval b:=by
 induction a with
 | nil=>simp[wval]
 | cons d l ih=>simp only[List.cons_append,wval,ih,Db,Ba]; grind
theorem b0k{l:List Nat}(h:WB l):wval l<4294967296^l.length:=by
 induction l with
 | nil=>simp[wval]
 | cons d l ih =>
   have h1:=ih (λx hx=>h x (by simp[hx]));have h2:=h d (by simp);simp only[wval,Db,Ba];omega
theorem s02(l:List Nat)(i:Nat):wval (l.take (i+1))=wval (l.take i)+l.getD i 0*4294967296^i:=by
 by_cases h:i<l.length
 . rw[List.take_succ_eq_append_getElem h,Z0f];have:(l.take i).length=i:=by simp; omega
   rw[this];simp[wval,List.getD,h,Br]
 rw[Dr9 (by omega),Dr9 (by omega)];simp[List.getD,h]
theorem D03{l:List Nat}{i:Nat}(h:l.length<=i):wval (l.take i)=wval l:=by rw[Dr9 h]
theorem q0d{l:List Nat}{i d:Nat}(h:i<l.length):wval ((l.set i d).take (i+1))=wval (l.take i)+d*4294967296^i:=by
 rw[s02];have h1:(l.set i d).take i=l.take i:=by rw[List.take_set_of_le (An9 i)]
 rw[h1]; simp[List.getD,h]
theorem C0v(n:Nat):wval (List.replicate n 0)=0:=by
 induction n with
 | zero=>rfl
 | succ n ih=>simp[Ec,wval,ih]
theorem c0q{l:List Nat}(h:∀d∈l,d=0):wval l=0:=by
 induction l with
 | nil=>rfl
 | cons d l ih=>simp[wval,h d (by simp),ih (λx hx=>h x (by simp[hx]))]
theorem c0k(l:List Nat)(i:Nat):wval l=wval (l.take i)+4294967296^(l.take i).length*wval (l.drop i):=by
 rw[<-Z0f,Dw]
theorem U0z{l:List Nat}(h:WB l)(hl:∀d,l.getLast?=some d->d≠0):dig (wval l)=l:=by
 induction l with
 | nil=>simp[wval,n06]
 | cons d l ih =>
   have hd:=h d (by simp);have hb:WB l:=λx hx=>h x (by simp[hx])
   have hne:wval (d::l)≠0:=by
    intro h0;simp only[wval]at h0;have hd0:d=0:=by omega
    have hw0:wval l=0:=by omega
    cases l with
    | nil=>exact hl d (by simp) hd0
    | cons e l =>
      have h1:=ih hb (λx hx=>hl x (by simpa [Fx]using hx));rw[hw0,n06]at h1; simp at h1
   rw[T07 hne];simp only[wval];have e1:(d+4294967296*wval l)%4294967296=d:=by omega
   have e2:(d+4294967296*wval l) / 4294967296=wval l:=by omega
   rw[e1,e2];cases l with
   | nil=>simp[wval,n06]
   | cons e l=>rw[ih hb (λx hx=>hl x (by simpa [Fx]using hx))]
theorem s0t{n d:Nat}(h:(dig n).getLast?=some d):d≠0:=by
 induction n using Nat.strongRecOn with
 | _ n ih =>
   by_cases h0:n=0
   . subst h0; simp[n06]at h
   rw[T07 h0]at h;by_cases h1:n / 4294967296=0
   . rw[h1,n06]at h; simp at h; omega
   rw[T07 h1,Fx,<-T07 h1]at h;exact ih _ (by omega) h
def wn(n:Nat):Nat:=(dig n).length
theorem s0d:wn 0=0:=by simp[wn,n06]
theorem K07{n:Nat}:wn n=0↔n=0:=by
 constructor
 . intro h;rcases Ap n with h0|h0
   . exact h0
   simp[wn,T07 (by omega:n≠0)]at h
 rintro rfl; exact s0d
theorem B0l(n:Nat):n<4294967296^wn n:=by
 have:=b0k (L08 n);rwa[i04]at this
theorem B15{n:Nat}(h:n≠0):4294967296^(wn n-1)<=n:=by
 induction n using Nat.strongRecOn with
 | _ n ih =>
   simp only[wn,T07 h,Db,Cf];by_cases h1:n / 4294967296=0
   . rw[h1,n06]; simp; omega
   have h2:=ih _ (by omega) h1;have h3:wn (n / 4294967296)≠0:=by rw[Ne,K07]; exact h1
   have e:(dig (n / 4294967296)).length=wn (n / 4294967296)-1+1:=by simp only[wn]at h3 ⊢; omega
   rw[e,Ba];have:=Ag 4294967296 h2;omega
theorem A07{n k:Nat}(h:n<4294967296^k):wn n<=k:=by
 rcases Ap n with h0|h0
 . subst h0; simp[s0d]
 rcases Ad k (wn n)with h1|h1
 . exfalso;have h2:=B15 (by omega:n≠0);have h3:4294967296^k<=4294967296^(wn n-1):=Ar (by omega) (by omega);omega
 exact h1
theorem a0g{a b:Nat}(h:a<=b):wn a<=wn b:=A07 (Cs9 h (B0l b))
theorem j0x(a b:Nat):wn (a+b)<=max (wn a) (wn b)+1:=by
 refine A07 ?_;have h1:=B0l a;have h2:=B0l b;have h3:4294967296^wn a<=4294967296^max (wn a) (wn b):=Ar (by omega) (by omega);have h4:4294967296^wn b<=4294967296^max (wn a) (wn b):=Ar (by omega) (by omega);rw[Ba]; omega
theorem j0e(a b:Nat):wn (a*b)<=wn a+wn b:=by
 refine A07 ?_;rw[Av];exact Nat.mul_lt_mul'' (B0l a) (B0l b)
theorem k0x{n k:Nat}(h:n<2^(32*k)):wn n<=k:=by
 refine A07 ?_;have:(4294967296:Nat)=2^32:=rfl;rw[this,<-Nat.pow_mul]; exact h
structure j04 (V:View) (s:Sl) (l:List Nat):Prop where
 load:∀(i d:Nat),l[i]?=Option.some d->V.load (s.a.map (·.add i))=some (.int .u32 (d:Int))
 len:s.len=l.length
 cap:s.len<=s.cap
 wb:WB l
def x02(V:View)(s:Sl)(n:Nat):Prop:=j04 V s (dig n)
theorem j04.le{V V':View}{s:Sl}{l:List Nat}(hle:V.le V')(h:j04 V s l):j04 V' s l :=
 ⟨λi d hi=>H02 hle (h.load i d hi),h.len,h.cap,h.wb⟩
theorem x02.le{V V':View}{s:Sl}{n:Nat}(hle:V.le V')(h:x02 V s n):x02 V' s n:=j04.le hle h
theorem j04.isSome{V:View}{s:Sl}{l:List Nat}(h:j04 V s l)(hl:0<s.len):s.a.isSome=true:=by
 have hl':0<l.length:=by rw[<-h.len]; exact hl
 have:=h.load 0 _ (Ae hl');cases ha:s.a with
 | none=>rw[ha]at this; simp[View.load]at this
 | some a=>rfl
theorem j04.get{V:View}{s:Sl}{l:List Nat}(h:j04 V s l){i:Int}(h0:0<=i)(h1:i<s.len) :
 V.load (Option.map (λq=>Addr.add q (Int.toNat i*1)) s.a)=some (.int .u32 (l.getD i.toNat 0:Nat)):=by
 have hi:i.toNat<l.length:=by have:=h.len; omega
 have:=h.load i.toNat _ (Ae hi);simpa [List.getD,hi]using this
theorem j04.getD_lt{V:View}{s:Sl}{l:List Nat}(h:j04 V s l)(i:Nat):l.getD i 0<4294967296:=by
 by_cases hi:i<l.length
 . have:=h.wb (l[i]) (Ax _);simpa [List.getD,hi]using this
 simp[List.getD,hi]
theorem WB.getD{l:List Nat}(h:WB l)(i:Nat):l.getD i 0<4294967296:=by
 by_cases hi:i<l.length
 . have:=h (l[i]) (Ax _);simpa [List.getD,hi]using this
 simp[List.getD,hi]
theorem WB.set{l:List Nat}(h:WB l){i d:Nat}(hd:d<4294967296):WB (l.set i d):=by
 intro x hx;rcases List.mem_or_eq_of_mem_set hx with h1|h1
 . exact h x h1
 omega
theorem WB.zeros(n:Nat):WB (List.replicate n 0):=λd hd=>by rw[(List.mem_replicate.1 hd).2]; omega
theorem WB.take{l:List Nat}(h:WB l)(n:Nat):WB (l.take n):=λd hd=>h d (List.mem_of_mem_take hd)
theorem j04.nil(V:View):j04 V (Sl.mk none 0 0) []:=⟨λi d h=>by simp at h,rfl,by simp,λd h=>by simp at h⟩
theorem x02.zero(V:View):x02 V (Sl.mk none 0 0) 0:=by unfold x02; rw[n06]; exact j04.nil V
theorem y0z{V:View}{s:Sl}{l:List Nat}(h:j04 V s l)(hl:∀d,l.getLast?=some d->d≠0):x02 V s (wval l):=by
 unfold x02; rw[U0z h.wb hl]; exact h
theorem j04.inj{V:View}{s:Sl}{a b:List Nat}(h1:j04 V s a)(h2:j04 V s b):a=b:=by
 have l1:=h1.len;have l2:=h2.len;apply Cw;intro j;by_cases hj:j<a.length
 . have g1:=h1.load j _ (Ae hj);have g2:=h2.load j _ (Ae (by omega));rw[g1]at g2;simp only[Ay,Value.int.injEq,true_and]at g2;rw[Ae hj,Ae (by omega)];congr 1;omega
 rw[Ab (by omega),Ab (by omega)]
theorem x02.inj{V:View}{s:Sl}{a b:Nat}(h1:x02 V s a)(h2:x02 V s b):a=b:=by
 rw[<-i04 a,<-i04 b,j04.inj h1 h2]
theorem x02.isSome{V:View}{s:Sl}{n:Nat}(h:x02 V s n)(hl:0<s.len):s.a.isSome=true:=j04.isSome h hl
theorem x02.get{V:View}{s:Sl}{n:Nat}(h:x02 V s n){i:Int}(h0:0<=i)(h1:i<s.len) :
 V.load (Option.map (λq=>Addr.add q (Int.toNat i*1)) s.a)=some (.int .u32 ((dig n).getD i.toNat 0:Nat)):=j04.get h h0 h1
theorem x02.getD_lt{V:View}{s:Sl}{n:Nat}(h:x02 V s n)(i:Nat):(dig n).getD i 0<4294967296:=j04.getD_lt h i
theorem x02.len{V:View}{s:Sl}{n:Nat}(h:x02 V s n):s.len=(dig n).length:=j04.len h
theorem j04.of_block{V:View}{b:Nat}{l:List Nat}{n c:Nat}(hb:V b = .some (wv l).toArray)(hn:n=l.length)(hc:n<=c)(hw:WB l):j04 V (Sl.mk (.some (Addr.mk b 0 none)) n c) l:=by
 refine⟨λi d hi => ?_,hn,hc,hw⟩;by_cases e:i=0
 . subst e; simp[View.load,Addr.add,hb,wv,hi]
 simp[View.load,Addr.add,hb,wv,hi,e]
theorem w03(l:List Nat):(wv l).length=l.length:=by simp[wv]
theorem P0g{l:List Nat}{i:Nat}(h:i<l.length):(wv l)[i]? = .some (.int .u32 (l.getD i 0:Nat)):=by simp[wv,List.getD,h]
theorem o0b(l:List Nat)(i d:Nat):(wv l).set i (.int .u32 (d:Nat))=wv (l.set i d):=by simp[wv,Ga]
theorem F0a(n:Nat):(List.replicate n [Value.int .u32 0]).flatten=wv (List.replicate n 0):=by
 induction n with
 | zero=>rfl
 | succ n ih=>simp[Ec,ih,wv]
def l0x(V:View)(s:Sl):Nat:=wval ((List.range s.len).map λi=>match V.load (s.a.map (·.add i))with | .some (.int _ n)=>n.toNat|_=>0)
theorem d0q{V:View}{s:Sl}{n:Nat}(h:x02 V s n):l0x V s=n:=by
 unfold l0x;have e:((List.range s.len).map λi=>match V.load (s.a.map (·.add i))with | .some (.int _ n)=>n.toNat|_=>0)=dig n:=by
  apply Cw;intro i;have hl:=h.len;by_cases hi:i<s.len
  . have:=j04.load h i _ (Ae (by omega));simp[hi,this,Ae (by omega:i<(dig n).length)]
  rw[Ab (by simp; omega),Ab (by omega)]
 rw[e,i04]
theorem i64w{n:Int}(h0 : -9223372036854775808<=n)(h1:n<=9223372036854775807):i64.wrap n=n:=IntWalk.i64_in n ⟨h0,h1⟩
theorem u64w{n:Int}(h0:0<=n)(h1:n<=18446744073709551615):u64.wrap n=n:=IntWalk.u64_in n ⟨h0,h1⟩
theorem u32w{n:Int}(h0:0<=n)(h1:n<=4294967295):u32.wrap n=n:=IntWalk.u32_in n ⟨h0,h1⟩
theorem u32m(n:Int):u32.wrap n=n%4294967296:=by rw[IntKind.wrap_u32]
theorem u64m(n:Int):u64.wrap n=n%18446744073709551616:=by simp[IntKind.wrap,IntKind.signed,IntKind.bits]
def ws(f:Nat->Nat):Nat->Nat
 | 0=>0
 | n+1=>ws f n+f n*4294967296^n
theorem Z0n{f g:Nat->Nat}{n:Nat}(h:∀i,i<n->f i=g i):ws f n=ws g n:=by
 induction n with
 | zero=>rfl
 | succ n ih=>simp only[ws]; rw[ih (λi hi=>h i (by omega)),h n (by omega)]
theorem D12(l:List Nat)(n:Nat):ws (λi=>l.getD i 0) n=wval (l.take n):=by
 induction n with
 | zero=>simp[ws,wval]
 | succ n ih=>rw[s02,<-ih]; rfl
theorem C15{f:Nat->Nat}{n:Nat}(h:∀i,i<n->f i<4294967296):ws f n<4294967296^n:=by
 induction n with
 | zero=>simp[ws]
 | succ n ih =>
   have h1:=ih (λi hi=>h i (by omega));have h2:=Ag (4294967296^n) (Dp (h n (by omega)));simp only[ws,Ba];rw[Ci]at h2;omega
theorem g14(f:Nat->Nat)(m n:Nat):ws f (m+n)=ws f m+4294967296^m*ws (λi=>f (m+i)) n:=by
 induction n with
 | zero=>simp[ws]
 | succ n ih =>
   show ws f (m+n)+f (m+n)*4294967296^(m+n)=_;rw[ih]; simp only[ws,Av,Eu]; grind
def seg(l:List Nat)(j k:Nat):Nat:=ws (λi=>l.getD (j+i) 0) k
theorem G0a(l:List Nat)(j:Nat):seg l j 0=0:=rfl
theorem L04(l:List Nat)(j k:Nat):seg l j (k+1)=seg l j k+l.getD (j+k) 0*4294967296^k:=rfl
theorem t0t(l:List Nat)(k:Nat):seg l 0 k=wval (l.take k):=by
 unfold seg; simp only[Am]; exact D12 l k
theorem k0e{l:List Nat}{k:Nat}(h:l.length<=k):seg l 0 k=wval l:=by rw[t0t,D03 h]
theorem p0b(l:List Nat)(j m n:Nat):seg l j (m+n)=seg l j m+4294967296^m*seg l (j+m) n:=by
 unfold seg; rw[g14];congr 2;exact Z0n λi _=>by rw[Ej]
theorem x0i{l:List Nat}(h:WB l)(j k:Nat):seg l j k<4294967296^k:=C15 λ_ _=>h.getD _
theorem H0a(l:List Nat)(p d i:Nat):(l.set p d).getD i 0=if i=p/\p<l.length then d else l.getD i 0:=by
 simp only[List.getD,As];by_cases e:p=i
 . subst e;by_cases h:p<l.length
   . simp[h]
   simp[h]
 have e':¬i=p:=λx=>e x.symm
 simp[e,e']
theorem t0d{l:List Nat}{p d j k:Nat}(h:p<j\/j+k<=p):seg (l.set p d) j k=seg l j k:=by
 refine Z0n λi hi => ?_;rw[H0a,if_neg (by omega)]
theorem M06{l:List Nat}{p d j k:Nat}(hp:p=j+k)(hl:p<l.length):seg (l.set p d) j (k+1)=seg l j k+d*4294967296^k:=by
 rw[L04,t0d (by omega),H0a,if_pos (by omega)]
theorem m0x{l:List Nat}{p d j k:Nat}(h1:j<=p)(h2:p<j+k)(hl:p<l.length):seg (l.set p d) j k+l.getD p 0*4294967296^(p-j)=seg l j k+d*4294967296^(p-j):=by
 induction k with
 | zero=>omega
 | succ k ih =>
   rcases Ad p (j+k)with h|h
   . have:=ih h;rw[L04,L04,H0a,if_neg (by omega)]; omega
   have e:p=j+k:=by omega
   rw[M06 e hl,L04,show p-j=k by omega,<-e]; omega
theorem n0x(n j k:Nat):seg (List.replicate n 0) j k=0:=by
 induction k with
 | zero=>rfl
 | succ k ih =>
   rw[L04,ih];have:(List.replicate n 0).getD (j+k) 0=0:=by
    simp only[List.getD,Dd]; split<;>rfl
   rw[this]; simp
theorem W0z{B v1 v2 P V W guess rest top u0:Nat}(hV:V<=(v1*B+v2+1)*P)(hW:(top*B+u0)*P<=W)
 (hg:guess*v1+rest=top) (hc:guess*v2<=rest*B+u0) (hB:guess<=v1*B+v2+1):(guess-1)*V<=W:=by
 rcases Ap guess with h0|h0
 . subst h0; simp
 obtain⟨g,rfl⟩:∃g,guess=g+1:=⟨guess-1,by omega⟩;simp only[Cf];have h1:(g+1)*(v1*B+v2)<=top*B+u0:=by
  subst hg;have:(g+1)*(v1*B+v2)=(g+1)*v1*B+(g+1)*v2:=by grind
  have h2:((g+1)*v1+rest)*B=(g+1)*v1*B+rest*B:=by grind
  omega
 have h2:g*(v1*B+v2+1)<=(g+1)*(v1*B+v2):=by
  have:g*(v1*B+v2+1)=g*(v1*B+v2)+g:=by grind
  have h3:(g+1)*(v1*B+v2)=g*(v1*B+v2)+(v1*B+v2):=by grind
  omega
 have h3:=Cv g hV;have h4:=Ag P (Ah h2 h1);have e:g*((v1*B+v2+1)*P)=g*(v1*B+v2+1)*P:=by grind
 omega
end Go.Vc
namespace Go.Vc
open Go
theorem e0q(X:BitVec IntKind.u32.bits):IntKind.u32.wrap (X.toNat:Int)=X.toNat:=by
 have h:X.toNat<4294967296:=X.isLt;exact u32w (by omega) (by omega)
theorem f0q{w:Nat}(X:BitVec w):BitVec.ofInt w (X.toNat:Int)=X:=by
 rw[Dz,BitVec.ofNat_toNat,BitVec.setWidth_eq]
theorem of32{n:Nat}(h:n<4294967296):(BitVec.ofInt 32 (n:Int)).toNat=n:=by
 rw[Dz,Et]; exact Bx9 h
theorem or64{a b:Nat}(ha:a<4294967296)(hb:b<4294967296) :
 BitVec.toNat ((BitVec.ofInt IntKind.u64.bits (((b*4294967296:Nat)):Int)) ||| (BitVec.ofInt IntKind.u64.bits ((a:Nat):Int)))=b*4294967296+a:=by
 have e:IntKind.u64.bits=64:=rfl;rw[e,Dz,Dz,BitVec.toNat_or,Et,Et,Bx9 (by omega),Bx9 (by omega)];have:=Dt (i:=32) (b:=a) (by omega) b;rw[show b*4294967296=2^32*b by omega,<-this]
theorem D15{a b:Nat}(ha:a<4294967296)(hb:b<4294967296) :
 BitVec.toNat ((BitVec.ofInt IntKind.u64.bits ((a:Nat):Int)) ||| (BitVec.ofInt IntKind.u64.bits (((b*4294967296:Nat)):Int)))=b*4294967296+a:=by
 rw[BitVec.or_comm]; exact or64 ha hb
theorem E15(X:BitVec IntKind.u32.bits):Int.fdiv (X.toNat:Int) (2^(min (Int.toNat 31) (IntKind.u32.bits)))=X.msb.toNat:=by
 have e:(2:Int)^(min (Int.toNat 31) (IntKind.u32.bits))=2147483648:=by decide
 have h:X.toNat<4294967296:=X.isLt;rw[e,Bd _ (by omega),BitVec.msb_eq_decide];have e2:2^(IntKind.u32.bits-1)=2147483648:=by decide
 rw[e2];by_cases hx:2147483648<=X.toNat
 . simp[hx]; omega
 simp[hx]; omega
theorem o0x{x y b:Nat}(hx:x<4294967296)(hy:y<4294967296)(hb:b<=1)(X Y D:BitVec 32)(hX:X.toNat=x)(hY:Y.toNat=y)(hD:D.toNat=(x+8589934592-y-b)%4294967296)(M:BitVec 32)(hM:M=BitVec.allOnes 32) :
 (((M ^^^ X) &&& Y) ||| ((M ^^^ (X ^^^ Y)) &&& D)).msb.toNat=if x<y+b then 1 else 0:=by
 subst hM;simp only[BitVec.msb_or,BitVec.msb_and,BitVec.msb_xor,BitVec.msb_allOnes (w:=32) (by omega)];simp only[BitVec.msb_eq_decide,hX,hY,hD];have e2:2^(32-1)=2147483648:=by decide
 rw[e2];by_cases h1:2147483648<=x<;>by_cases h2:2147483648<=y<;>by_cases h3:2147483648<=(x+8589934592-y-b)%4294967296<;>simp[h1,h2,h3]<;>omega
theorem a0o(a i:Nat):(dig a).getD i 0=a / 4294967296^i%4294967296:=by
 induction i generalizing a with
 | zero =>
   by_cases h:a=0
   . subst h; simp[n06]
   rw[T07 h]; simp
 | succ i ih =>
   by_cases h:a=0
   . subst h; simp[n06]
   rw[T07 h,List.getD_cons_succ,ih,Ba,Br,Ee]
def bl(n:Nat):Nat:=if n=0 then 0 else Nat.log2 n+1
theorem l0e:bl 0=0:=by simp[bl]
theorem S0i(n:Nat):n<2^bl n:=by
 unfold bl; split
 . omega
 exact Nat.lt_log2_self
theorem T0i{n:Nat}(h:n≠0):2^(bl n-1)<=n:=by
 simp only[bl,h,At9,Cf]; exact Nat.log2_self_le h
theorem d0k{n:Nat}(h:n≠0):0<bl n:=by simp[bl,h]
theorem F15{n k:Nat}(h1:2^k<=n)(h2:n<2^(k+1)):bl n=k+1:=by
 have h0:n≠0:=by have:=Eg k; omega
 have a1:=S0i n;have a2:=T0i h0;have a3:=d0k h0;have b1:k<bl n:=(Bu (a:=2) (by omega)).1 (Cs9 h1 a1);have b2:bl n-1<k+1:=(Bu (a:=2) (by omega)).1 (Cs9 a2 h2);omega
theorem u0t{n m:Nat}(k:Nat)(h0:n≠0)(h1:n*2^k<=m)(h2:m<(n+1)*2^k):bl m=bl n+k:=by
 have a1:=S0i n;have a2:=T0i h0;have a3:=d0k h0;have e:bl n+k=(bl n-1+k)+1:=by omega
 rw[e];refine F15 ?_ ?_
 . rw[Av]; exact Ah (Ag _ a2) h1
 rw[show bl n-1+k+1=bl n+k by omega,Av]; exact Cm h2 (Ag _ a1)
theorem p0x{m:Nat}(k:Nat)(h:2^k<=m):bl m=bl (m / 2^k)+k:=by
 have hp:=Eg k;have hd:0<m / 2^k:=Nat.div_pos h hp;refine u0t k (by omega) (Fh _ _) ?_;have:=Nat.lt_succ_iff.2 (An9 (m / 2^k));exact(Di hp).1 this
theorem td32(n:Nat):Int.tdiv (n:Int) 32=((n / 32:Nat):Int):=(Int.ofNat_tdiv n 32).symm
theorem tm32(n:Nat):Int.tmod (n:Int) 32=((n%32:Nat):Int):=(Int.ofNat_tmod n 32).symm
theorem i14{r h lo:Nat}(hh:h<2^r):(h ||| lo*2^r)=h+lo*2^r:=by
 have:=Dt hh lo;rw[Nat.or_comm,show lo*2^r=2^r*lo by rw[Br],<-this]; omega
theorem G15{a b:Nat}(ha:a<4294967296)(hb:b<4294967296) :
 BitVec.toNat ((BitVec.ofInt IntKind.u32.bits ((a:Nat):Int)) ||| (BitVec.ofInt IntKind.u32.bits ((b:Nat):Int)))=a ||| b:=by
 have e:IntKind.u32.bits=32:=rfl;rw[e,Dz,Dz,BitVec.toNat_or,Et,Et,Bx9 (by omega),Bx9 (by omega)]
structure t0f (P vN v1 v2 u2 u1 u0 W:Nat):Prop where
 h1:v1<4294967296
 h2:v2<4294967296
 pos:0<v1
 k2:u2<=v1
 k1:u1<4294967296
 k0:u0<4294967296
 vlo:(v1*4294967296+v2)*P<=vN
 vhi:vN<=(v1*4294967296+v2+1)*P
 wlo:((u2*4294967296+u1)*4294967296+u0)*P<=W
 whi:W<((u2*4294967296+u1)*4294967296+u0+1)*P
 lt:W<4294967296*vN
theorem t0f.big{P vN v1 v2 u2 u1 u0 W:Nat}(h:t0f P vN v1 v2 u2 u1 u0 W){q:Nat}(hq:q*vN<=W):q*(v1*4294967296+v2)<(u2*4294967296+u1)*4294967296+u0+1:=by
 rcases Ad (q*(v1*4294967296+v2)) ((u2*4294967296+u1)*4294967296+u0+1)with h1|h1
 . exact h1
 exfalso;have h2:=Ag P h1;have h3:=Cv q h.vlo;rw[<-Bj]at h3;have:=h.whi;omega
theorem t0f.init{P vN v1 v2 u2 u1 u0 W:Nat}(h:t0f P vN v1 v2 u2 u1 u0 W):W / vN<=(u2*4294967296+u1) / v1:=by
 rw[Ez h.pos];have h1:=h.big (Fh W vN);generalize W / vN=q at *;have hu0:=h.k0;have e:q*(v1*4294967296+v2)=q*v1*4294967296+q*v2:=by rw[Eu,Bj]
 rw[e]at h1;omega
theorem t0f.quo{P vN v1 v2 u2 u1 u0 W:Nat}(h:t0f P vN v1 v2 u2 u1 u0 W):W / vN<4294967296:=by
 have:=h.lt;rw[Di]
 . exact this
 rcases Ap vN with h0|h0
 . subst h0; omega
 exact h0
theorem t0f.dec{P vN v1 v2 u2 u1 u0 W g r:Nat}(h:t0f P vN v1 v2 u2 u1 u0 W)(hg:g*v1+r=u2*4294967296+u1)(hc:r*4294967296+u0<g*v2):W / vN<g:=by
 have h1:=h.big (Fh W vN);generalize W / vN=q at *;rcases Ad q g with h2|h2
 . exact h2
 exfalso;have h3:=Ag (v1*4294967296+v2) h2;have e:g*(v1*4294967296+v2)=g*v1*4294967296+g*v2:=by rw[Eu,Bj]
 omega
theorem t0f.exit{P vN v1 v2 u2 u1 u0 W g r:Nat}(h:t0f P vN v1 v2 u2 u1 u0 W)(hg:g*v1+r=u2*4294967296+u1)(hB:g<4294967296)(hc:g*v2<=r*4294967296+u0):(g-1)*vN<=W:=by
 have:=h.pos;exact W0z h.vhi h.wlo hg hc (by omega)
theorem t0f.brk{P vN v1 v2 u2 u1 u0 W g r:Nat}(h:t0f P vN v1 v2 u2 u1 u0 W)(hg:g*v1+r=u2*4294967296+u1)(h0:0<g)(hr:4294967296<=r+v1):g-1<4294967296/\(g-1-1)*vN<=W:=by
 obtain⟨g,rfl⟩:∃k,g=k+1:=⟨g-1,by omega⟩;simp only[Cf];have hg':g*v1+(r+v1)=u2*4294967296+u1:=by rw[Ci]at hg; omega
 have hB:g<4294967296:=by
  rcases Ad g 4294967296 with h1|h1
  . exact h1
  exfalso;have h2:=Ag v1 h1;have:=h.k2;have:=h.k1;omega
 refine⟨hB,h.exit hg' hB ?_⟩;have:=El (Fj hB) (Fj h.h2);have h3:=Ag 4294967296 hr;omega
theorem g0q(l:List Nat)(j k:Nat):seg l j (k+1+1+1)=seg l j k+((l.getD (j+k+2) 0*4294967296+l.getD (j+k+1) 0)*4294967296+l.getD (j+k) 0)*4294967296^k:=by
 rw[L04,L04,L04,Ba,Ba,Ba,show j+(k+1+1)=j+k+2 by omega,show j+(k+1)=j+k+1 by omega];grind
theorem E12(l:List Nat)(j k:Nat):seg l j (k+1+1)=seg l j k+(l.getD (j+k+1) 0*4294967296+l.getD (j+k) 0)*4294967296^k:=by
 rw[L04,L04,Ba,show j+(k+1)=j+k+1 by omega];grind
theorem q0x(n:Nat){k:Nat}(h:wn n<=k):seg (dig n) 0 k=n:=by rw[k0e h,i04]
theorem X0z{n vN j:Nat}{u:List Nat}(hu:WB u)(hn:2<=n)(hv:wn vN=n)(hc:seg u (j+1) n<vN) :
 t0f (4294967296^(n-2)) vN ((dig vN).getD (n-1) 0) ((dig vN).getD (n-2) 0) (u.getD (j+n) 0) (u.getD (j+n-1) 0) (u.getD (j+n-2) 0) (seg u j (n+1)):=by
 obtain⟨k,rfl⟩:∃k,n=k+2:=⟨n-2,by omega⟩;have e1:k+2-1=k+1:=rfl;have e2:k+2-2=k:=rfl;have e3:j+(k+2)=j+k+2:=rfl;have e4:j+k+2-1=j+k+1:=rfl;have e5:j+k+2-2=j+k:=rfl;rw[e1,e2,e3,e4,e5];have hw:=L08 vN;have hvs:=q0x vN (Nat.le_of_eq hv);rw[E12,Am]at hvs;have b1:=x0i hw 0 k;have b2:=x0i hu j k;have hP:0<4294967296^k:=Bi (by omega);have top:=L04 u (j+1) (k+1);rw[show j+1+(k+1)=j+k+2 by omega]at top;have hw1:seg u j (k+2+1)=u.getD j 0+4294967296*seg u (j+1) (k+2):=by
  rw[show k+2+1=1+(k+2)by omega,p0b,L04,G0a]; simp
 have b3:=hu.getD j;refine⟨hw.getD _,hw.getD _,?_,?_,hu.getD _,hu.getD _,by omega,by rw[Ci]; omega,?_,?_,by rw[hw1]; omega⟩
 . rcases Ap ((dig vN).getD (k+1) 0)with h0|h0
   . exfalso;have hl:wn vN=k+2:=hv;have h1:vN≠0:=by rintro rfl; rw[s0d]at hl; omega
     have h2:(dig vN).getLast?=some ((dig vN).getD (k+1) 0):=by
      rw[Fp];simp only[wn]at hl;simp only[List.getD];rw[hl,show k+2-1=k+1 by omega,Ae (by omega)]; rfl
     exact s0t h2 h0
   exact h0
 ·
   rcases Ad ((dig vN).getD (k+1) 0) (u.getD (j+k+2) 0)with h0|h0
   . exfalso;have h1:=Ag (4294967296^(k+1)) (Dp h0);rw[Ci,Ba]at h1;rw[show k+1+1=k+2 by omega,Ba]at top;have h2:=hw.getD k;have h3:=Ag (4294967296^k) (Dp h2);rw[Ci]at h3;have e6:∀z,z*(4294967296^k*4294967296)=z*4294967296*4294967296^k:=by intro z; grind
     simp only[e6]at h1 top;rw[Bb]at hvs;omega
   exact h0
 . rw[show k+2+1=k+1+1+1 by omega,g0q]; omega
 rw[show k+2+1=k+1+1+1 by omega,g0q,Ci]; omega
theorem Y0z{α:Type}(l:List α)(off:Nat)(vs:List α)(h:off+vs.length<=l.length):setL l off vs=l.take off++vs++l.drop (off+vs.length):=by
 induction vs generalizing l off with
 | nil=>simp[setL]
 | cons v vs ih =>
   simp only[Db]at h;rw[setL,ih _ _ (by simp; omega)];apply Cw;intro i;simp only[Bp,Gq,Da,As,Be,Dk,Dg,Db,List.getElem?_cons];have e1:min (off+1) l.length=off+1:=by omega
   have e2:min off l.length=off:=by omega
   rw[e1,e2];by_cases c1:i<off
   . have c2:¬off=i:=by omega
     simp[c1,c2,show i<off+1+vs.length by omega,show i<off+1 by omega,show i<off+(vs.length+1)by omega]
   by_cases c2:i=off
   . subst c2;simp[show i<i+1+vs.length by omega,show i<l.length by omega]
   have c3:¬off=i:=λx=>c2 x.symm
   have c4:¬i<off+1:=by omega
   have c5:i-off≠0:=by omega
   simp only[c1,c4,At9,c3];by_cases c6:i<off+1+vs.length
   . simp[c6,show i<off+(vs.length+1)by omega,c5,show i-off-1=i-(off+1)by omega]
   simp only[c6,show ¬i<off+(vs.length+1)by omega,At9];rw[if_neg (by omega)];congr 1; omega
theorem F12(n:Nat)(d:List Nat)(h:d.length<=n):setL (wv (List.replicate n 0)) 0 (wv d)=wv (d++List.replicate (n-d.length) 0):=by
 rw[Y0z _ _ _ (by simp[wv]; omega)];simp[wv]
theorem Z0z(d:List Nat)(n:Nat):wval (d++List.replicate n 0)=wval d:=by rw[Z0f,C0v]; simp
structure Cq where
 re:Rat
 im:Rat
theorem Cq.ext'{x y:Cq}(h1:x.re=y.re)(h2:x.im=y.im):x=y:=by cases x; cases y; cases h1; cases h2; rfl
instance:DecidableEq Cq:=λx y=>if h1:x.re=y.re then if h2:x.im=y.im then .isTrue (Cq.ext' h1 h2)else .isFalse (λe=>h2 (by rw[e]))else .isFalse (λe=>h1 (by rw[e]))
instance:Add Cq:=⟨λx y=>⟨x.re+y.re,x.im+y.im⟩⟩
instance:Neg Cq:=⟨λx=>⟨-x.re,-x.im⟩⟩
instance:Sub Cq:=⟨λx y=>⟨x.re-y.re,x.im-y.im⟩⟩
instance:Mul Cq:=⟨λx y=>⟨x.re*y.re-x.im*y.im,x.re*y.im+x.im*y.re⟩⟩
def Cq.conj(x:Cq):Cq:=⟨x.re,-x.im⟩
def Cq.norm(x:Cq):Rat:=x.re*x.re+x.im*x.im
def Cq.zero:Cq:=⟨0,0⟩
def Cq.one:Cq:=⟨1,0⟩
def Cq.div(x y:Cq):Cq:=⟨(x.re*y.re+x.im*y.im) / y.norm,(x.im*y.re-x.re*y.im) / y.norm⟩
theorem P01(x y:Cq):(x+y).re=x.re+y.re:=rfl
theorem Q01(x y:Cq):(x+y).im=x.im+y.im:=rfl
theorem o02(x y:Cq):(x-y).re=x.re-y.re:=rfl
theorem u02(x y:Cq):(x-y).im=x.im-y.im:=rfl
theorem G07(x:Cq):(-x).re = -x.re:=rfl
theorem H07(x:Cq):(-x).im = -x.im:=rfl
theorem F01(x y:Cq):(x*y).re=x.re*y.re-x.im*y.im:=rfl
theorem G01(x y:Cq):(x*y).im=x.re*y.im+x.im*y.re:=rfl
theorem l0w(x:Cq):x.conj.im = -x.im:=rfl
structure Rep (z:Cq) (A B:Int) (D:Nat):Prop where
 pos:D≠0
 re:z.re=(A:Rat) / (D:Rat)
 im:z.im=(B:Rat) / (D:Rat)
structure U0i (z:Cq) (A B:Int) (D:Nat):Prop where
 rep:Rep z A B D
 cop:Nat.gcd (Nat.gcd A.natAbs B.natAbs) D=1
theorem H06{D:Nat}(h:D≠0):(D:Rat)≠0:=by simpa using h
theorem x03{A A':Int}{D D':Nat}(h:D≠0)(h':D'≠0):(A:Rat) / (D:Rat)=(A':Rat) / (D':Rat)↔A*D'=A'*D:=by
 rw[<-Fa,<-Fa,Rat.mkRat_eq_iff h h']
theorem U0i.dvd{z:Cq}{A B A' B':Int}{D D':Nat}(h:U0i z A B D)(h':Rep z A' B' D'):D ∣ D':=by
 have e1:=(x03 h.rep.pos h'.pos).1 (h.rep.re.symm.trans h'.re);have e2:=(x03 h.rep.pos h'.pos).1 (h.rep.im.symm.trans h'.im);have f1:D ∣ A.natAbs*D':=by
  have:=Ck Int.natAbs e1;rw[Dn,Dn,Bf,Bf]at this;exact⟨A'.natAbs,by rw[this,Br]⟩
 have f2:D ∣ B.natAbs*D':=by
  have:=Ck Int.natAbs e2;rw[Dn,Dn,Bf,Bf]at this;exact⟨B'.natAbs,by rw[this,Br]⟩
 have f3:=Nat.dvd_gcd f1 f2;rw[Nat.gcd_mul_right]at f3;have hc:Nat.Coprime D (Nat.gcd A.natAbs B.natAbs):=by rw[Nat.Coprime,Nat.gcd_comm]; exact h.cop
 exact hc.dvd_of_dvd_mul_left f3
theorem U0i.inj{z:Cq}{A B A' B':Int}{D D':Nat}(h:U0i z A B D)(h':U0i z A' B' D'):A=A'/\B=B'/\D=D':=by
 have hD:D=D':=Nat.dvd_antisymm (h.dvd h'.rep) (h'.dvd h.rep);subst hD;have e1:=(x03 h.rep.pos h'.rep.pos).1 (h.rep.re.symm.trans h'.rep.re);have e2:=(x03 h.rep.pos h'.rep.pos).1 (h.rep.im.symm.trans h'.rep.im);have hD:(D:Int)≠0:=by have:=h.rep.pos; omega
 exact⟨Int.eq_of_mul_eq_mul_right hD e1,Int.eq_of_mul_eq_mul_right hD e2,rfl⟩
def gcd3(A B:Int)(D:Nat):Nat:=Nat.gcd (Nat.gcd A.natAbs B.natAbs) D
theorem w0t(A B:Int){D:Nat}(h:D≠0):0<gcd3 A B D:=Nat.gcd_pos_of_pos_right _ (by omega)
theorem e0k(A B:Int)(D:Nat):gcd3 A B D ∣ A.natAbs:=Nat.dvd_trans (Fy _ _) (Fy _ _)
theorem f0k(A B:Int)(D:Nat):gcd3 A B D ∣ B.natAbs:=Nat.dvd_trans (Fy _ _) (Nat.gcd_dvd_right _ _)
theorem i0q(A B:Int)(D:Nat):gcd3 A B D ∣ D:=Nat.gcd_dvd_right _ _
theorem Q0a{A:Int}{g:Nat}(h:g ∣ A.natAbs):(A / (g:Int)).natAbs=A.natAbs / g:=by
 obtain⟨k,hk⟩:=h;rcases Ap g with h0|h0
 . subst h0; simp
 have hg:(g:Int)≠0:=by omega
 rcases Int.natAbs_eq A with e|e
 . rw[hk]at e; rw[e,Cc,Int.mul_ediv_cancel_left _ hg,Bf,Dn,Bf,Bf,Nat.mul_div_cancel_left _ h0]
 rw[hk]at e; rw[e,Cc,<-Int.mul_neg,Int.mul_ediv_cancel_left _ hg,Cn,Bf,Dn,Bf,Cn,Bf,Nat.mul_div_cancel_left _ h0]
theorem y0m{A:Int}{g:Nat}(h:g ∣ A.natAbs):A / (g:Int)*g=A:=Int.ediv_mul_cancel (Int.ofNat_dvd_left.2 h)
theorem g0k{A:Int}{g:Nat}(h:g ∣ A.natAbs)(hg:0<g):decide (A / (g:Int)<0)=decide (A<0):=by
 have e:=y0m h;have hg':(0:Int)<g:=by omega
 have:A / (g:Int)<0↔A<0:=by
  constructor
  . intro h1;have:=Fq h1 hg';omega
  intro h1;rcases Int.lt_or_le (A / (g:Int)) 0 with h2|h2
  . exact h2
  have:=Int.mul_nonneg h2 (Int.le_of_lt hg'); omega
 simp[this]
theorem Rep.canon{z:Cq}{A B:Int}{D:Nat}(h:Rep z A B D):U0i z (A / (gcd3 A B D:Nat)) (B / (gcd3 A B D:Nat)) (D / gcd3 A B D):=by
 have hg:=w0t A B h.pos;have d1:=e0k A B D;have d2:=f0k A B D;have d3:=i0q A B D;have hne:D / gcd3 A B D≠0:=by
  have:=Nat.div_pos (Nat.le_of_dvd (by have:=h.pos; omega) d3) hg;omega
 have key:∀ {C:Int},gcd3 A B D ∣ C.natAbs->(C:Rat) / (D:Rat)=((C / (gcd3 A B D:Nat):Int):Rat) / ((D / gcd3 A B D:Nat):Rat):=by
  intro C hC;rw[x03 h.pos hne];have e1:=y0m hC;have e2:=Nat.div_mul_cancel d3;have e3:(D:Int)=((D / gcd3 A B D:Nat):Int)*(gcd3 A B D:Nat):=by rw[<-Cc,e2]
  generalize (C / (gcd3 A B D:Nat):Int)=q at *;generalize D / gcd3 A B D=m at *;generalize gcd3 A B D=g at *;rw[<-e1,e3];grind
 refine⟨⟨hne,h.re.trans (key d1),h.im.trans (key d2)⟩,?_⟩;rw[Q0a d1,Q0a d2,Nat.gcd_div d1 d2,Nat.gcd_div (Nat.dvd_gcd d1 d2) d3];exact Nat.div_self hg
theorem Cq.rep(z:Cq):Rep z (z.re.num*z.im.den) (z.im.num*z.re.den) (z.re.den*z.im.den):=by
 have h1:=z.re.den_nz;have h2:=z.im.den_nz;have h3:=Bz h1 h2;refine⟨h3,?_,?_⟩
 . conv=>lhs; rw[<-Rat.mkRat_self z.re,Fa]
   rw[x03 h1 h3];rw[Cc]; grind
 conv=>lhs; rw[<-Rat.mkRat_self z.im,Fa]
 rw[x03 h2 h3];rw[Cc]; grind
def Cq.g(z:Cq):Nat:=gcd3 (z.re.num*z.im.den) (z.im.num*z.re.den) (z.re.den*z.im.den)
def Cq.A(z:Cq):Int:=z.re.num*z.im.den / (z.g:Int)
def Cq.B(z:Cq):Int:=z.im.num*z.re.den / (z.g:Int)
def Cq.D(z:Cq):Nat:=z.re.den*z.im.den / z.g
theorem Cq.canon(z:Cq):U0i z z.A z.B z.D:=z.rep.canon
theorem Cq.D_pos(z:Cq):z.D≠0:=z.canon.rep.pos
theorem U0i.eqs{z:Cq}{A B:Int}{D:Nat}(h:U0i z A B D):z.A=A/\z.B=B/\z.D=D:=z.canon.inj h
theorem Rep.eqs{z:Cq}{A B:Int}{D:Nat}(h:Rep z A B D):z.A=A / (gcd3 A B D:Nat)/\z.B=B / (gcd3 A B D:Nat)/\z.D=D / gcd3 A B D:=h.canon.eqs
theorem F11{z w:Cq}(h1:z.A=w.A)(h2:z.B=w.B)(h3:z.D=w.D):z=w:=by
 have a:=z.canon.rep;have b:=w.canon.rep;exact Cq.ext' (by rw[a.re,b.re,h1,h3]) (by rw[a.im,b.im,h2,h3])
def Cq.sz(z:Cq):Nat:=max (bl z.A.natAbs) (max (bl z.B.natAbs) (bl z.D))
theorem b0o{a b:Nat}(h:a<=b):bl a<=bl b:=by
 rcases Ap a with h0|h0
 . subst h0; simp[l0e]
 have h1:=T0i (by omega:a≠0);have h2:=S0i b;have:=(Bu (a:=2) (n:=bl a-1) (m:=bl b) (by omega)).1 (by omega);omega
theorem k02{a k:Nat}(h:a<2^k):bl a<=k:=by
 rcases Ap a with h0|h0
 . subst h0; simp[l0e]
 have h1:=T0i (by omega:a≠0);have:=(Bu (a:=2) (n:=bl a-1) (m:=k) (by omega)).1 (by omega);omega
theorem c0o{a k:Nat}(h:bl a<=k):a<2^k:=Cm (S0i a) (Ar (by omega) h)
theorem y0i(a b:Nat):bl (a*b)<=bl a+bl b:=by
 refine k02 ?_;rw[Av];exact Nat.mul_lt_mul'' (S0i a) (S0i b)
theorem j14{a b k:Nat}(h1:bl a<=k)(h2:bl b<=k):bl (a+b)<=k+1:=by
 refine k02 ?_;have:=c0o h1;have:=c0o h2;rw[Ba]; omega
theorem i0k{a b:Int}{k:Nat}(h1:bl a.natAbs<=k)(h2:bl b.natAbs<=k):bl (a+b).natAbs<=k+1 :=
 Ah (b0o (Int.natAbs_add_le a b)) (j14 h1 h2)
theorem G12{a b:Int}{k:Nat}(h1:bl a.natAbs<=k)(h2:bl b.natAbs<=k):bl (a-b).natAbs<=k+1:=by
 rw[Int.sub_eq_add_neg];exact i0k h1 (by rw[Cn]; exact h2)
theorem i0a(a b:Int):bl (a*b).natAbs<=bl a.natAbs+bl b.natAbs:=by rw[Dn]; exact y0i _ _
theorem j0k{a k:Nat}(h:bl a<=32*k):wn a<=k:=k0x (c0o h)
theorem Rep.sz{z:Cq}{A B:Int}{D k:Nat}(h:Rep z A B D)(hA:bl A.natAbs<=k)(hB:bl B.natAbs<=k)(hD:bl D<=k):z.sz<=k:=by
 obtain⟨e1,e2,e3⟩:=h.eqs;unfold Cq.sz;rw[e1,e2,e3,Q0a (e0k A B D),Q0a (f0k A B D)];have a:=b0o (Eh A.natAbs (gcd3 A B D));have b:=b0o (Eh B.natAbs (gcd3 A B D));have c:=b0o (Eh D (gcd3 A B D));omega
theorem Cq.szA(z:Cq):bl z.A.natAbs<=z.sz:=Nat.le_max_left _ _
theorem Cq.szB(z:Cq):bl z.B.natAbs<=z.sz:=by unfold Cq.sz; omega
theorem Cq.szD(z:Cq):bl z.D<=z.sz:=by unfold Cq.sz; omega
theorem Rep.add{z w:Cq}{A B A' B':Int}{D D':Nat}(h:Rep z A B D)(h':Rep w A' B' D'):Rep (z+w) (A*D'+A'*D) (B*D'+B'*D) (D*D'):=by
 have n1:=H06 h.pos;have n2:=H06 h'.pos;refine⟨Bz h.pos h'.pos,?_,?_⟩
 . rw[P01,h.re,h'.re]; push_cast; grind
 rw[Q01,h.im,h'.im]; push_cast; grind
theorem Rep.neg{z:Cq}{A B:Int}{D:Nat}(h:Rep z A B D):Rep (-z) (-A) (-B) D:=by
 refine⟨h.pos,?_,?_⟩
 . rw[G07,h.re]; push_cast; grind
 rw[H07,h.im]; push_cast; grind
theorem Rep.conj{z:Cq}{A B:Int}{D:Nat}(h:Rep z A B D):Rep z.conj A (-B) D:=by
 refine⟨h.pos,h.re,?_⟩;rw[l0w,h.im]; push_cast; grind
theorem Rep.mul{z w:Cq}{A B A' B':Int}{D D':Nat}(h:Rep z A B D)(h':Rep w A' B' D'):Rep (z*w) (A*A'-B*B') (A*B'+B*A') (D*D'):=by
 have n1:=H06 h.pos;have n2:=H06 h'.pos;refine⟨Bz h.pos h'.pos,?_,?_⟩
 . rw[F01,h.re,h'.re,h.im,h'.im]; push_cast; grind
 rw[G01,h.re,h'.re,h.im,h'.im]; push_cast; grind
def d07(V:View)(x:WhV)(n:Int):Prop:=x.neg=decide (n<0)/\x02 V x.mag n.natAbs
theorem d07.le{V V':View}{x:WhV}{n:Int}(hle:V.le V')(h:d07 V x n):d07 V' x n:=⟨h.1,h.2.le hle⟩
theorem d07.zero(V:View):d07 V (WhV.mk false (Sl.mk none 0 0)) 0:=⟨by simp,x02.zero V⟩
theorem d07.val{V:View}{x:WhV}{n:Int}(h:d07 V x n):n=if x.neg=true then -(n.natAbs:Int)else(n.natAbs:Int):=by
 rw[h.1]; simp only[Af]; split<;>omega
structure Q00 (V:View) (x:NumV) (z:Cq):Prop where
 re:d07 V x.re z.A
 im:d07 V x.im z.B
 under:x02 V x.under (if z.D=1 then 0 else z.D)
theorem Q00.le{V V':View}{x:NumV}{z:Cq}(hle:V.le V')(h:Q00 V x z):Q00 V' x z:=⟨h.re.le hle,h.im.le hle,h.under.le hle⟩
theorem x02.len_zero{V:View}{s:Sl}{n:Nat}(h:x02 V s n):s.len=0↔n=0:=by
 rw[<-K07 (n:=n),wn,<-h.len]
theorem Rep.ofInt(n:Int):Rep ⟨(n:Rat),0⟩ n 0 1:=by
 refine⟨by omega,?_,?_⟩
 . rw[Bm]; simp; grind
 rw[Bm]; simp
theorem M0i(n:Int):(Cq.mk (n:Rat) 0).A=n/\(Cq.mk (n:Rat) 0).B=0/\(Cq.mk (n:Rat) 0).D=1 :=
 U0i.eqs ⟨Rep.ofInt n,by simp⟩
theorem g0l:Cq.zero.A=0/\Cq.zero.B=0/\Cq.zero.D=1:=by
 have:=M0i 0;simp only[Rat.intCast_zero]at this;exact this
theorem Q00.zero(V:View):Q00 V (NumV.mk (WhV.mk false (Sl.mk none 0 0)) (WhV.mk false (Sl.mk none 0 0)) (Sl.mk none 0 0)) Cq.zero:=by
 obtain⟨h1,h2,h3⟩:=g0l;refine⟨by rw[h1]; exact d07.zero V,by rw[h2]; exact d07.zero V,by rw[h3]; exact x02.zero V⟩
theorem s0x:bl 1=1:=by decide
theorem K06:Cq.zero.sz<=1:=by
 obtain⟨h1,h2,h3⟩:=g0l;unfold Cq.sz; rw[h1,h2,h3]; simp[l0e,s0x]
theorem q06(z w:Cq):(z+w).sz<=z.sz+w.sz+1:=by
 have a1:=z.szA; have a2:=z.szB; have a3:=z.szD;have b1:=w.szA; have b2:=w.szB; have b3:=w.szD;refine(z.canon.rep.add w.canon.rep).sz ?_ ?_ ?_
 . refine i0k (Ah (i0a _ _) ?_) (Ah (i0a _ _) ?_)<;>simp only[Bf]<;>omega
 . refine i0k (Ah (i0a _ _) ?_) (Ah (i0a _ _) ?_)<;>simp only[Bf]<;>omega
 exact Ah (y0i _ _) (by omega)
theorem D02(z w:Cq):(z*w).sz<=z.sz+w.sz+1:=by
 have a1:=z.szA; have a2:=z.szB; have a3:=z.szD;have b1:=w.szA; have b2:=w.szB; have b3:=w.szD;refine(z.canon.rep.mul w.canon.rep).sz ?_ ?_ ?_
 . exact G12 (Ah (i0a _ _) (by omega)) (Ah (i0a _ _) (by omega))
 . exact i0k (Ah (i0a _ _) (by omega)) (Ah (i0a _ _) (by omega))
 exact Ah (y0i _ _) (by omega)
theorem Cq.neg_eqs(z:Cq):(-z).A = -z.A/\(-z).B = -z.B/\(-z).D=z.D :=
 U0i.eqs ⟨z.canon.rep.neg,by rw[Cn,Cn]; exact z.canon.cop⟩
theorem Cq.conj_eqs(z:Cq):z.conj.A=z.A/\z.conj.B = -z.B/\z.conj.D=z.D :=
 U0i.eqs ⟨z.canon.rep.conj,by rw[Cn]; exact z.canon.cop⟩
theorem i0l(z:Cq):(-z).sz=z.sz:=by
 obtain⟨h1,h2,h3⟩:=z.neg_eqs;unfold Cq.sz; rw[h1,h2,h3,Cn,Cn]
theorem i0f(z:Cq):z.conj.sz=z.sz:=by
 obtain⟨h1,h2,h3⟩:=z.conj_eqs;unfold Cq.sz; rw[h1,h2,h3,Cn]
theorem o0r(z w:Cq):z-w=z + -w:=Cq.ext' (by rw[o02,P01,G07]; grind) (by rw[u02,Q01,H07]; grind)
theorem s06(z w:Cq):(z-w).sz<=z.sz+w.sz+1:=by
 rw[o0r,<-i0l w]; exact q06 z (-w)
theorem Cq.B_zero{z:Cq}:z.B=0↔z.im=0:=by
 have h:=z.canon.rep;rw[h.im];constructor
 . intro e; rw[e]; simp[Bm]
 intro e;have hD:=H06 h.pos;have:((z.B:Int):Rat)=0:=by
  have h2:=Ck (·*(z.D:Rat)) e;simp only[Fm9 hD,Rat.zero_mul]at h2;exact h2
 simpa using this
theorem C0l{A A':Int}{D D':Nat}(h:D≠0)(h':D'≠0):(A:Rat) / (D:Rat)<(A':Rat) / (D':Rat)↔A*D'<A'*D:=by
 have p:(0:Rat)<(D:Rat):=Rat.natCast_pos.2 (by omega);have p':(0:Rat)<(D':Rat):=Rat.natCast_pos.2 (by omega);rw[Rat.div_lt_iff p];have e:(A':Rat) / (D':Rat)*(D:Rat)=((A'*D:Int):Rat) / (D':Rat):=by push_cast; rw[Bm,Bm]; grind
 rw[e,Rat.lt_div_iff p'];have e2:(A:Rat)*(D':Rat)=((A*D':Int):Rat):=by push_cast; rfl
 rw[e2]; exact Rat.intCast_lt_intCast
def cmpR(x y:Rat):Int:=if x<y then -1 else if x=y then 0 else 1
def cmpZ(x y:Int):Int:=if x<y then -1 else if x=y then 0 else 1
theorem t0x{x y:Int}(h:x<y):cmpZ x y = -1:=by unfold cmpZ; rw[if_pos h]
theorem u0x{x y:Int}(h:x=y):cmpZ x y=0:=by unfold cmpZ; rw[if_neg (by omega),if_pos h]
theorem w0x{x y:Int}(h:y<x):cmpZ x y=1:=by unfold cmpZ; rw[if_neg (by omega),if_neg (by omega)]
theorem Q0g{x y:Int}:cmpZ x y=0↔x=y:=by
 unfold cmpZ; split
 . omega
 split<;>omega
theorem O11{A A':Int}{D D':Nat}(h:D≠0)(h':D'≠0):cmpZ (A*D') (A'*D)=cmpR ((A:Rat) / (D:Rat)) ((A':Rat) / (D':Rat)):=by
 unfold cmpZ cmpR;simp only[C0l h h',x03 h h']
def Cq.cmp(z w:Cq):Int:=if cmpR z.re w.re≠0 then cmpR z.re w.re else cmpR z.im w.im
theorem S0g(a:Addr)(m n:Nat):(a.add m).add n=a.add (m+n):=by
 by_cases h1:m=0<;>by_cases h2:n=0<;>simp[Addr.add,h1,h2,Ej]
theorem g09{V:View}{b j:Nat}{cs:Array Value}(h:V b=some cs):V.load ((some (Addr.mk b 0 none)).map (·.add j))=cs[j]?:=by
 by_cases h1:j=0<;>simp[View.load,Addr.add,h1,h]
def f01{α:Type}(sz:Nat)(P:View->List Value->α->Prop)(V:View):List Value->List α->Prop
 | o,[]=>o=[]
 | o,z::zs=>∃x o',o=x++o'/\x.length=sz/\P V x z/\f01 sz P V o' zs
section
variable {α:Type} {sz:Nat} {P:View->List Value->α->Prop} {V V':View}
theorem f01.length:∀ {zs:List α} {o:List Value},f01 sz P V o zs->o.length=zs.length*sz
 | [],_,h=>by rw[show _=[]from h]; simp
 | z::zs,_,⟨x,o',e,hx,_,h⟩=>by rw[e,Be,hx,h.length,Db,Bb]; omega
theorem f01.imp{P':View->List Value->α->Prop}(hP:∀x z,P V x z->P' V' x z):∀ {zs:List α} {o:List Value},f01 sz P V o zs->f01 sz P' V' o zs
 | [],_,h=>h
 | _::_,_,⟨x,o',e,hx,p,h⟩=>⟨x,o',e,hx,hP _ _ p,h.imp hP⟩
theorem f01.append:∀ {zs zs':List α} {o o':List Value},f01 sz P V o zs->f01 sz P V o' zs'->f01 sz P V (o++o') (zs++zs')
 | [],_,_,_,h,h'=>by rw[show _=[]from h]; exact h'
 | _::_,_,_,_,⟨x,o1,e,hx,p,h⟩,h'=>⟨x,o1++_,by rw[e,Cq9],hx,p,h.append h'⟩
theorem f01.one{x:List Value}{z:α}(hx:x.length=sz)(p:P V x z):f01 sz P V x [z]:=⟨x,[],by simp,hx,p,rfl⟩
theorem f01.replicate{x:List Value}{z:α}(hx:x.length=sz)(p:P V x z):∀n,f01 sz P V (List.replicate n x).flatten (List.replicate n z)
 | 0=>rfl
 | n+1=>⟨x,(List.replicate n x).flatten,by simp[Ec],hx,p,f01.replicate hx p n⟩
theorem f01.get:∀ {zs:List α} {o:List Value},f01 sz P V o zs->∀ {i:Nat} {z:α},zs[i]?=some z ->
 ∃x,P V x z/\x.length=sz/\∀j v,x[j]?=some v->o[i*sz+j]?=some v
 | [],_,_,i,z,hi=>by simp at hi
 | z0::zs,_,⟨x,o',e,hx,p,h⟩,0,z,hi=>by
   simp at hi; subst hi;refine⟨x,p,hx,λj v hj => ?_⟩;have:j<x.length:=by
    rcases Ad j x.length with h|h
    . exact h
    rw[Ab h]at hj; simp at hj
   rw[e,Cy,Am,Dx this]; exact hj
 | z0::zs,_,⟨x,o',e,hx,p,h⟩,i+1,z,hi=>by
   simp at hi;obtain⟨y,q,hy,hg⟩:=h.get hi;refine⟨y,q,hy,λj v hj => ?_⟩;rw[e,List.getElem?_append_right (by rw[hx,Bb]; omega)];have:(i+1)*sz+j-x.length=i*sz+j:=by rw[hx,Bb]; omega
   rw[this]; exact hg j v hj
theorem l0j{β:Type}:∀(vs a:List β) (b c:List β),b.length=vs.length->setL (a++b++c) a.length vs=a++vs++c
 | [], a, b, c, h => by have : b = [] := by simpa using h
                        subst this; simp[setL]
 | v::vs,a,[],c,h=>by simp at h
 | v::vs,a,b0::b,c,h=>by
   have h':b.length=vs.length:=by simpa using h
   unfold setL;have e:(a++b0::b++c).set a.length v=(a++[v])++b++c:=by
    rw[Cq9,List.set_append_right _ _ (An9 _)]; simp
   rw[e];have e2:a.length+1=(a++[v]).length:=by simp
   rw[e2,l0j vs (a++[v]) b c h']; simp
theorem f01.set:∀ {zs:List α} {o:List Value},f01 sz P V o zs->∀ {i:Nat} {y:List Value} {z:α},i<zs.length->y.length=sz->P V y z ->
 ∀pre:List Value,∃o',setL (pre++o) (pre.length+i*sz) y=pre++o'/\f01 sz P V o' (zs.set i z)
 | [],_,_,i,_,_,hi,_,_,_=>by simp at hi
 | z0::zs,_,⟨x,o',e,hx,p,h⟩,0,y,z,hi,hy,q,pre=>by
   refine⟨y++o',?_,y,o',rfl,hy,q,h⟩;rw[e,Cy,Dm,<-Cq9,l0j y pre x o' (by rw[hx,hy])]; simp
 | z0::zs,_,⟨x,o',e,hx,p,h⟩,i+1,y,z,hi,hy,q,pre=>by
   obtain⟨o2,e2,h2⟩:=h.set (i:=i) (by simpa using hi) hy q (pre++x);refine⟨x++o2,?_,x,o2,rfl,hx,p,h2⟩;have e3:(pre++x).length+i*sz=pre.length+(i+1)*sz:=by rw[Be,hx,Bb]; omega
   rw[e,<-e3,<-Cq9,e2,Cq9]
theorem f01.set0{zs:List α}{o:List Value}(h:f01 sz P V o zs){i:Nat}{y:List Value}{z:α}(hi:i<zs.length)(hy:y.length=sz)(q:P V y z) :
 f01 sz P V (setL o (0+i*sz) y) (zs.set i z):=by
 obtain⟨o',e,h'⟩:=h.set hi hy q [];simp only[Ef,Dy]at e;rw[e]; exact h'
theorem f01.room{zs:List α}{o:List Value}(h:f01 sz P V o zs){i:Nat}(hi:i<zs.length):0+i*sz+sz<=o.length:=by
 rw[h.length];have:(i+1)*sz<=zs.length*sz:=Ag _ hi;rw[Bb]at this; omega
structure n00 (sz:Nat) (P:View->List Value->α->Prop) (V:View) (s:Sl) (zs:List α):Prop where
 len:s.len=zs.length
 cap:s.len<=s.cap
 some:zs≠[]->s.a.isSome=true
 cells:∃o,V.has s.a o/\f01 sz P V o zs
theorem n00.le(hP:∀x z,P V x z->P V' x z)(hle:V.le V'){s:Sl}{zs:List α}(h:n00 sz P V s zs):n00 sz P V' s zs:=by
 obtain⟨o,h1,h2⟩:=h.cells;exact⟨h.len,h.cap,h.some,o,w06 hle h1,h2.imp hP⟩
theorem n00.nil:n00 sz P V (Sl.mk none 0 0) ([]:List α):=⟨rfl,An9 _,by simp,[],by intro j v h; simp at h,rfl⟩
theorem n00.get{s:Sl}{zs:List α}(h:n00 sz P V s zs){t:Int}(h0:0<=t){z:α}(hz:zs[t.toNat]? = .some z) :
 ((0:Int)<=t/\t<(s.len:Nat)/\Option.isSome s.a=true) /\
 ∃x,P V x z/\x.length=sz/\V.has (Option.map (λq=>Addr.add q (Int.toNat t*sz)) s.a) x/\Option.isSome (Option.map (λq=>Addr.add q (Int.toNat t*sz)) s.a)=true:=by
 obtain⟨o,h1,h2⟩:=h.cells;obtain⟨x,p,hx,hg⟩:=h2.get hz;have hlt:t.toNat<zs.length:=by
  rcases Ad t.toNat zs.length with h|h
  . exact h
  rw[Ab h]at hz; simp at hz
 have hne:zs≠[]:=by intro e; rw[e]at hlt; simp at hlt
 have hs:=h.some hne;have hl:=h.len;refine⟨⟨h0,by omega,hs⟩,x,p,hx,λj v hj => ?_,by simpa using hs⟩;have:=h1 _ v (hg j v hj);rw[Gk];have e:((λx:Addr=>x.add j)∘λq:Addr=>q.add (t.toNat*sz))=λq:Addr=>q.add (t.toNat*sz+j):=by
  funext a; exact S0g a _ _
 rw[e]; exact this
theorem n00.of_block{b c:Nat}{o o':List Value}{zs:List α}(hb:o++o'≠[]->V b = .some (o++o').toArray)(h:f01 sz P V o zs){n:Nat}(hn:n=zs.length)(hc:n<=c){a:Option Addr}
 (ha:c≠0->a = .some ⟨b,0,none⟩):n00 sz P V ⟨a,n,c⟩ zs:=by
 refine⟨hn,hc,λhne => ?_,o,λj v hj => ?_,h⟩
 . have:zs.length≠0:=by simpa using hne
   rw[ha (by omega)]; rfl
 have hj':j<o.length:=by
   rcases Ad j o.length with h|h
   . exact h
   rw[Ab h]at hj; simp at hj
 have hl:=h.length;have hz:zs.length≠0:=by intro e; rw[e]at hl; omega
 have hne:o++o'≠[]:=by intro e; have:=Ck List.length e; simp at this; simp[this]at hj'
 show V.load (a.map (·.add j)) = .some v;rw[ha (by omega)];rw[g09 (hb hne),Ey,Dx hj']; exact hj
theorem G02.split{n cap:Nat}{o l:List Value}(h:G02 sz n cap o l):∃o',o=l++o':=⟨o.drop (n*sz),by rw[<-h.take,Dw]⟩
theorem G02.nil:G02 sz 0 0 [] []:=⟨An9 _,by simp,by simp⟩
theorem k04{b n cap:Nat}{o l:List Value}{zs:List α}(hl:G02 sz n cap o l)(hb:o≠[]->V b = .some o.toArray)(h:f01 sz P V l zs)(hn:n=zs.length) :
 n00 sz P V ⟨lstA b cap,n,cap⟩ zs:=by
 obtain⟨o',e⟩:=hl.split;refine n00.of_block (o:=l) (o':=o') (b:=b) (λhne => ?_) h hn hl.le (λhc=>by simp[lstA,hc]);rw[<-e]; exact hb (by rw[e]; exact hne)
theorem W01{b n:Nat}{o:List Value}{zs:List α}(hb:V b = .some o.toArray)(h:f01 sz P V o zs)(hn:n=zs.length):n00 sz P V ⟨.some ⟨b,0,none⟩,n,n⟩ zs :=
 n00.of_block (o:=o) (o':=[]) (b:=b) (λ_=>by simpa using hb) h hn (An9 _) (λ_=>rfl)
end
def numC(V:View)(x:List Value)(z:Cq):Prop:=∃n:NumV,x=n.val.cells.toList/\Q00 V n z
theorem numC.le{V V':View}(hle:V.le V')(x:List Value)(z:Cq)(h:numC V x z):numC V' x z:=by
 obtain⟨n,e,hn⟩:=h; exact⟨n,e,hn.le hle⟩
theorem k0k(n:NumV):n.val.cells.toList=[.bool n.re.neg,n.re.mag.v,.bool n.im.neg,n.im.mag.v,n.under.v]:=rfl
def H01(V:View)(s:Sl)(zs:List Cq):Prop:=n00 5 numC V s zs
def u05(V:View)(o:List Value)(zs:List Cq):Prop:=f01 5 numC V o zs
theorem H01.le{V V':View}(hle:V.le V'){s:Sl}{zs:List Cq}(h:H01 V s zs):H01 V' s zs:=n00.le (numC.le hle) hle h
theorem u05.le{V V':View}(hle:V.le V'){o:List Value}{zs:List Cq}(h:u05 V o zs):u05 V' o zs:=f01.imp (numC.le hle) h
def nth(zs:List Cq)(i:Nat):Cq:=zs.getD i Cq.zero
theorem l0k{zs:List Cq}{i:Nat}(h:i<zs.length):zs[i]?=some (nth zs i):=by simp[nth,List.getD,h]
theorem H01.get{V:View}{s:Sl}{zs:List Cq}(h:H01 V s zs){t:Int}(h0:0<=t)(h1:t.toNat<zs.length) :
 ((0:Int)<=t/\t<(s.len:Nat)/\Option.isSome s.a=true) /\
 ∃x:NumV,V.has (Option.map (λq=>Addr.add q (Int.toNat t*5)) s.a) x.val.cells.toList/\Option.isSome (Option.map (λq=>Addr.add q (Int.toNat t*5)) s.a)=true/\Q00 V x (nth zs t.toNat):=by
 obtain⟨hb,x,⟨n,e,hn⟩,_,h1,h2⟩:=n00.get h h0 (l0k h1);exact⟨hb,n,e▸h1,h2,hn⟩
theorem u05.zeros(V:View)(n:Nat):u05 V ((List.replicate n [Value.bool false,Value.slice none 0 0,Value.bool false,Value.slice none 0 0,Value.slice none 0 0]).flatten) (List.replicate n Cq.zero) :=
 f01.replicate (x:=[Value.bool false,Value.slice none 0 0,Value.bool false,Value.slice none 0 0,Value.slice none 0 0]) rfl ⟨_,rfl,Q00.zero V⟩ n
theorem u05.set{V:View}{o:List Value}{zs:List Cq}(h:u05 V o zs){i:Nat}(hi:i<zs.length){r:NumV}{z:Cq}(hr:Q00 V r z) :
 u05 V (setL o (0+i*5) [.bool r.re.neg,r.re.mag.v,.bool r.im.neg,r.im.mag.v,r.under.v]) (zs.set i z):=f01.set0 h hi rfl ⟨r,rfl,hr⟩
theorem u05.push{V:View}{o:List Value}{zs:List Cq}(h:u05 V o zs){r:NumV}{z:Cq}(hr:Q00 V r z) :
 u05 V (o++[.bool r.re.neg,r.re.mag.v,.bool r.im.neg,r.im.mag.v,r.under.v]) (zs++[z]):=f01.append h (f01.one rfl ⟨r,rfl,hr⟩)
def p0a(n k:Nat)(f:Nat->Cq):List Cq:=(List.range k).map f++List.replicate (n-k) Cq.zero
theorem b0g(n:Nat)(f:Nat->Cq):p0a n 0 f=List.replicate n Cq.zero:=by simp[p0a]
theorem z0m(n:Nat)(f:Nat->Cq):p0a n n f=(List.range n).map f:=by simp[p0a]
theorem L07{n k:Nat}(h:k<=n)(f:Nat->Cq):(p0a n k f).length=n:=by simp[p0a]; omega
theorem H0h{n k:Nat}(h:k<n)(f:Nat->Cq):(p0a n k f).set k (f k)=p0a n (k+1) f:=by
 unfold p0a;rw[List.set_append_right _ _ (by simp)];simp only[Bt,List.length_range,Gs];have:n-k=(n-(k+1))+1:=by omega
 rw[this,Ec,List.set_cons_zero,Cz,Er]; simp
theorem u0d{n i:Nat}(h:i<n)(f:Nat->Cq):nth ((List.range n).map f) i=f i:=by simp[nth,List.getD,h]
theorem A0m(k:Nat)(f:Nat->Cq):(List.range k).map f++[f k]=(List.range (k+1)).map f:=by rw[Cz,Er]; rfl
theorem m0k(zs:List Cq):(List.range zs.length).map (nth zs)=zs:=by
 apply En (by simp);intro i h1 h2;simp[nth,List.getD,h2]
theorem b0i{P:Program}{f:FuncId}{args:Array Value}{ty:TypeId}{V:View}{zs:List Cq}(hz:zs≠[])
 (h:j0f P f args ty V λn cap l rest V'=>n=zs.length/\cap=n/\rest=[]/\u05 V' l zs) :
 a00 P f args V λv V'=>∃r:Sl,v=r.v/\H01 V' r zs:=by
 refine h.known.mono λv V' _ ⟨b,n,cap,l,rest,V1,hv,l1,hb,hn,hc,hr,hl⟩ => ?_;subst hc; subst hr;have hl0:l≠[]:=by
  intro e; subst e;have h1:=f01.length hl;have:zs.length≠0:=by simpa using hz
  simp at h1; omega
 refine⟨⟨lstA b cap,cap,cap⟩,hv,n00.of_block (o:=l) (o':=[]) (b:=b) (λ_=>by simpa using hb hl0) (hl.le l1) hn (An9 _) (λhc=>by simp[lstA,hc])⟩
def d02(zs:List Cq)(a:Nat):List Cq:=(List.range ((zs.length+1-a) / 2)).map λk=>nth zs (a+2*k)
theorem E03(zs:List Cq)(a:Nat):(d02 zs a).length=(zs.length+1-a) / 2:=by simp[d02]
theorem S0a{zs:List Cq}{a k:Nat}(h:k<(zs.length+1-a) / 2):nth (d02 zs a) k=nth zs (a+2*k):=u0d h _
def q02:Nat->List Cq->List Cq->List Cq
 | 0,zs,_=>[nth zs 0]
 | m + 1, zs, ws => (List.range (2 ^ (m + 1))).map fun i =>
     if i<2^m then nth (q02 m (d02 zs 0) (d02 ws 0)) i+nth (q02 m (d02 zs 1) (d02 ws 0)) i*nth ws i
     else nth (q02 m (d02 zs 0) (d02 ws 0)) (i-2^m)-nth (q02 m (d02 zs 1) (d02 ws 0)) (i-2^m)*nth ws (i-2^m)
theorem Y02(m:Nat)(zs ws:List Cq):(q02 m zs ws).length=2^m:=by cases m<;>simp[q02]
theorem M09:∀(m:Nat) (zs ws:List Cq) (S T:Nat),zs.length=2^m->ws.length=2^m->(∀i,i<2^m->(nth zs i).sz<=S)->(∀i,i<2^m->(nth ws i).sz<=T) ->
 ∀i,i<2^m->(nth (q02 m zs ws) i).sz+(T+2)<=2^m*(S+T+2)
 | 0,zs,ws,S,T,_,_,hS,_,i,hi=>by
   have h0:i=0:=by simpa using hi
   subst h0;have h2:=hS 0 (by simp);have e:nth (q02 0 zs ws) 0=nth zs 0:=rfl;rw[e]; omega
 | m+1,zs,ws,S,T,hz,hw,hS,hT,i,hi=>by
   have hp:2^(m+1)=2*2^m:=by rw[Ba]; omega
   have key:∀a,a<=1->∀k,k<2^m->(nth (q02 m (d02 zs a) (d02 ws 0)) k).sz+(T+2)<=2^m*(S+T+2):=by
    intro a ha;refine M09 m _ _ S T (by rw[E03]; omega) (by rw[E03]; omega) ?_ ?_
    . intro k hk;rw[S0a (by omega)];exact hS _ (by omega)
    intro k hk;rw[S0a (by omega)];exact hT _ (by omega)
   have e:2^(m+1)*(S+T+2)=2*(2^m*(S+T+2)):=by rw[hp,Bj]
   unfold q02;rw[u0d hi,e];split
   . have h1:=key 0 (by omega) i (by assumption);have h2:=key 1 (by omega) i (by assumption);have h3:=hT i hi;have h4:=D02 (nth (q02 m (d02 zs 1) (d02 ws 0)) i) (nth ws i);have h5:=q06 (nth (q02 m (d02 zs 0) (d02 ws 0)) i) (nth (q02 m (d02 zs 1) (d02 ws 0)) i*nth ws i);omega
   have h1:=key 0 (by omega) (i-2^m) (by omega);have h2:=key 1 (by omega) (i-2^m) (by omega);have h3:=hT (i-2^m) (by omega);have h4:=D02 (nth (q02 m (d02 zs 1) (d02 ws 0)) (i-2^m)) (nth ws (i-2^m));have h5:=s06 (nth (q02 m (d02 zs 0) (d02 ws 0)) (i-2^m)) (nth (q02 m (d02 zs 1) (d02 ws 0)) (i-2^m)*nth ws (i-2^m));omega
def E0d(h k:Nat)(a b:Nat->Cq):List Cq:=(List.range (2*h)).map λi=>if i<h then(if i<k then a i else Cq.zero)else(if i-h<k then b (i-h)else Cq.zero)
theorem y0s(h:Nat)(a b:Nat->Cq):E0d h 0 a b=List.replicate (2*h) Cq.zero:=by
 apply En (by simp[E0d]);intro i h1 h2;simp[E0d]
theorem D0v{h k:Nat}(hk:k<h)(a b:Nat->Cq):((E0d h k a b).set k (a k)).set (k+h) (b k)=E0d h (k+1) a b:=by
 apply En (by simp[E0d]);intro i h1 h2;simp only[E0d,List.getElem_set,List.getElem_map,Gr];by_cases e1:k+h=i
 . subst e1;have:¬k+h<h:=by omega
   simp[this]
 by_cases e2:k=i
 . subst e2;have e4:h≠0:=by omega
   simp[e4,hk]
 simp only[e1,e2,At9];by_cases e3:i<h
 . have:(i<k+1)↔i<k:=by omega
   simp[e3,this]
 have:(i-h<k+1)↔i-h<k:=by omega
 simp[e3,this]
theorem f01.cut{α:Type}{sz:Nat}{P:View->List Value->α->Prop}{V:View}:∀ {zs:List α} {o:List Value},f01 sz P V o zs->∀ {i:Nat} {z:α},zs[i]?=some z->P V ((o.drop (i*sz)).take sz) z
 | [],_,_,i,z,hi=>by simp at hi
 | z0::zs,_,⟨x,o',e,hx,p,h⟩,0,z,hi=>by
   simp at hi; subst hi;rw[e,Cy,List.drop_zero,List.take_append_of_le_length (by omega),Dr9 (by omega)]; exact p
 | z0::zs,_,⟨x,o',e,hx,p,h⟩,i+1,z,hi=>by
   simp at hi;have:=h.cut hi;have e2:(i+1)*sz=x.length+i*sz:=by rw[hx,Bb]; omega
   rw[e,e2,<-List.drop_drop,List.drop_left]; exact this
theorem u05.cut{V:View}{o:List Value}{zs:List Cq}(h:u05 V o zs){i:Nat}(hi:i<zs.length) :
 ∃x:NumV,List.take 5 (List.drop (0+i*5) o)=x.val.cells.toList/\Q00 V x (nth zs i):=by
 rw[Am];exact f01.cut h (l0k hi)
def I0h(n k:Nat)(a b:Nat->Cq):List Cq:=(List.range n).map λi=>if i<k then a i else b i
theorem m0e(n k:Nat)(a b:Nat->Cq):(I0h n k a b).length=n:=by simp[I0h]
theorem E0v(a:Nat->Cq)(zs:List Cq):I0h zs.length 0 a (nth zs)=zs:=by
 have:=m0k zs;simpa [I0h]using this
theorem x0x(n:Nat)(a b:Nat->Cq):I0h n n a b=(List.range n).map a:=by
 apply Ch;intro i hi;rw[if_pos (by simpa using hi)]
theorem y0x{n k:Nat}(_:k<n)(a b:Nat->Cq):(I0h n k a b).set k (a k)=I0h n (k+1) a b:=by
 apply En (by simp[I0h]);intro i h1 h2;simp only[I0h,List.getElem_set,List.getElem_map,Gr];by_cases e:k=i
 . subst e; simp
 have:(i<k+1)↔i<k:=by omega
 simp[e,this]
theorem z0x{n k i:Nat}(hi:i<n)(hk:k<=i)(a b:Nat->Cq):nth (I0h n k a b) i=b i:=by
 unfold I0h;rw[u0d hi,if_neg (by omega)]
def M07(ws:List Cq):List Cq:=(List.range ws.length).map λi=>(nth ws i).conj
theorem n0e(ws:List Cq):(M07 ws).length=ws.length:=by simp[M07]
theorem d0o(ws:List Cq)(T:Nat)(hT:∀i,i<ws.length->(nth ws i).sz<=T):∀i,i<ws.length->(nth (M07 ws) i).sz<=T:=by
 intro i hi;unfold M07;rw[u0d hi,i0f]; exact hT i hi
def K0b(n:Nat):Cq:=⟨((1:Int):Rat) / ((n:Int):Rat),((0:Int):Rat) / ((n:Int):Rat)⟩
def U06(zs:List Cq):List Cq:=(List.range zs.length).map λi=>nth zs i*K0b zs.length
theorem B0f(zs:List Cq):(U06 zs).length=zs.length:=by simp[U06]
theorem x0t{n:Nat}(h:1<=n)(hn:n<=64):(K0b n).sz<=8:=by
 have hr:Rep (K0b n) 1 0 n:=⟨by omega,by simp only[K0b]; push_cast; rfl,by simp only[K0b]; push_cast; rfl⟩;refine hr.sz ?_ ?_ ?_
 . exact k02 (by decide)
 . exact k02 (by decide)
 exact k02 (by omega)
theorem B0m(zs:List Cq)(S:Nat)(hn:zs.length<=64)(hS:∀i,i<zs.length->(nth zs i).sz<=S):∀i,i<zs.length->(nth (U06 zs) i).sz<=S+9:=by
 intro i hi;unfold U06;rw[u0d hi];have h1:=hS i hi;have h2:=x0t (n:=zs.length) (by omega) hn;have:=D02 (nth zs i) (K0b zs.length);omega
def rowL{α:Type}(w:Nat)(f:Nat->α):List α:=(List.range w).map f
theorem B00{α:Type}(w:Nat)(f:Nat->α):(rowL w f).length=w:=by simp[rowL]
theorem M04{α:Type}{w k:Nat}(h:k<w)(f:Nat->α):(rowL w f)[k]?=some (f k):=by simp[rowL,h]
theorem T0g{α:Type}(w k:Nat)(f:Nat->α)(z:α):(rowL w f).set k z=rowL w λj=>if j=k then z else f j:=by
 apply En (by simp[rowL]);intro i h1 h2;rw[List.getElem_set];simp only[rowL,List.getElem_map,Gr];by_cases e:k=i
 . subst e; simp
 rw[if_neg e,if_neg (by omega)]
theorem K0c{α:Type}(w:Nat)(f:Nat->α):rowL w f++[f w]=rowL (w+1) f:=by simp[rowL,Cz]
theorem I06{α:Type}{w:Nat}{f g:Nat->α}(h:∀k,k<w->f k=g k):rowL w f=rowL w g:=by
 unfold rowL; exact Ch λk hk=>h k (by simpa using hk)
theorem J0h{α:Type}(w:Nat)(z:α):rowL w (λ_=>z)=List.replicate w z:=by
 apply En (by simp[rowL]);intro i h1 h2;simp[rowL]
theorem n0k{α:Type}{w:Nat}(h:0<w)(f:Nat->α):rowL w f≠[]:=by
 intro e; have:=Ck List.length e; rw[B00]at this; simp at this; omega
section
variable {α:Type} {sz:Nat} {P:View->List Value->α->Prop}
theorem f01.take{V:View}:∀ {zs:List α} {o:List Value} (k:Nat),f01 sz P V o zs->f01 sz P V (o.take (k*sz)) (zs.take k)
 | [],o,k,h=>by rw[show o=[]from h]; simp; rfl
 | z::zs,_,0,_=>by simp; rfl
 | z::zs,_,k+1,⟨x,o',e,hx,p,h⟩=>by
   refine⟨x,o'.take (k*sz),?_,hx,p,h.take k⟩;rw[e,Bb,Ea,Gb,<-hx,List.take_length_add_append]
structure RowR (sz:Nat) (P:View->List Value->α->Prop) (m V:View) (s:Sl) (b:Nat) (row:List α):Prop where
 len:s.len=row.length
 cap:s.len<=s.cap
 nul:row=[]->s.cap=0
 blk:row≠[]->s.a=some ⟨b,0,none⟩/\∃o o':List Value,m b=some (o++o').toArray/\f01 sz P V o row/\(o++o').length=s.cap*sz
theorem RowR.le(hP:∀ {V V':View},V.le V'->∀x z,P V x z->P V' x z){m V V':View}(hle:V.le V'){s:Sl}{b:Nat}{row:List α}(h:RowR sz P m V s b row):RowR sz P m V' s b row:=by
 refine⟨h.len,h.cap,h.nul,λhne => ?_⟩;obtain⟨h1,o,o',h2,h3,h4⟩:=h.blk hne;exact⟨h1,o,o',h2,h3.imp (hP hle),h4⟩
theorem RowR.agree{m m' V:View}{s:Sl}{b:Nat}{row:List α}(h:RowR sz P m V s b row)(hb:row≠[]->m' b=m b):RowR sz P m' V s b row:=by
 refine⟨h.len,h.cap,h.nul,λhne => ?_⟩;obtain⟨h1,o,o',h2,h3,h4⟩:=h.blk hne;exact⟨h1,o,o',by rw[hb hne]; exact h2,h3,h4⟩
theorem e05{V:View}{b:Nat}{cs l:List Value}{j:Nat}(h:V b=some cs.toArray)(hl:∀i v,l[i]?=some v->cs[j+i]?=some v){q:Option Addr}(hq:q=some (Addr.add ⟨b,0,none⟩ j)):V.has q l:=by
 intro i v hv;subst hq;show V.load (some ((Addr.add ⟨b,0,none⟩ j).add i))=_;rw[S0g];have:=g09 (j:=j+i) h;rw[show(some (Addr.add ⟨b,0,none⟩ (j+i)))=(some (Addr.mk b 0 none)).map (·.add (j+i))from rfl,this,Ey];exact hl i v hv
theorem RowR.get{m V:View}{s:Sl}{b:Nat}{row:List α}(h:RowR sz P m V s b row){k:Nat}{z:α}(hk:row[k]?=some z) :
 ∃x,P V x z/\x.length=sz/\has2 m V (Option.map (λq=>Addr.add q (k*sz)) s.a) x/\Option.isSome (Option.map (λq=>Addr.add q (k*sz)) s.a)=true:=by
 have hne:row≠[]:=by intro e; subst e; simp at hk
 obtain⟨h1,o,o',h2,h3,h4⟩:=h.blk hne;obtain⟨x,p,hx,hg⟩:=h3.get hk;refine⟨x,p,hx,.inl (e05 (cs:=o++o') (j:=k*sz) h2 (λi v hv => ?_) (by rw[h1]; rfl)),by rw[h1]; rfl⟩;have:=hg i v hv;rw[Dx]
 . exact this
 rcases Ad (k*sz+i) o.length with g|g
 . exact g
 rw[Ab g]at this; simp at this
theorem RowR.all{m V:View}{s:Sl}{b:Nat}{row:List α}(h:RowR sz P m V s b row) :
 ∃o,f01 sz P V o row/\has2 m V s.a o:=by
 by_cases hne:row=[]
 . subst hne; exact⟨[],rfl,.inl (by intro j v hj; simp at hj)⟩
 obtain⟨h1,o,o',h2,h3,h4⟩:=h.blk hne;refine⟨o,h3,.inl (e05 (cs:=o++o') (j:=0) h2 (λi v hv => ?_) (by rw[h1]; rfl))⟩;rw[Am,Dx]
 . exact hv
 rcases Ad i o.length with g|g
 . exact g
 rw[Ab g]at hv; simp at hv
theorem F0v{β:Type}{o o':List β}{j:Nat}{y:List β}(h:j+y.length<=o.length):setL (o++o') j y=setL o j y++o':=by
 have e:o=o.take j++(o.drop j).take y.length++o.drop (j+y.length):=by
  rw[Cq9,<-List.drop_drop,Dw,Dw]
 have h1:(o.take j).length=j:=by rw[Dk]; omega
 have h2:((o.drop j).take y.length).length=y.length:=by rw[Dk,Fw]; omega
 have key:∀c:List β,setL (o.take j++(o.drop j).take y.length++c) j y=o.take j++y++c:=by
  intro c;have:=l0j y (o.take j) ((o.drop j).take y.length) c h2;rw[h1]at this; exact this
 conv=>lhs; rw[e]
 conv=>rhs; rw[e]
 rw[Cq9 (o.take j++(o.drop j).take y.length) _ o',key,key,<-Cq9]
theorem RowR.put{m V:View}{s:Sl}{b:Nat}{row:List α}(h:RowR sz P m V s b row){k:Nat}(hk:k<row.length){y:List Value}{z:α}(hy:y.length=sz)(q:P V y z) :
 ∃(l:List Value),Option.map (λq=>Addr.add q (k*sz)) s.a=some (Addr.mk b (k*sz) none)/\m b=some l.toArray/\k*sz+sz<=l.length /\
  RowR sz P (I00 m b (setL l (k*sz) y).toArray) V s b (row.set k z):=by
 have hne:row≠[]:=by intro e; subst e; simp at hk
 have hne2:row.set k z≠[]:=by intro e; have:=Ck List.length e; rw[Dg]at this; simp at this; exact hne this
 obtain⟨h1,o,o',h2,h3,h4⟩:=h.blk hne;have hroom:=h3.room hk;rw[Am]at hroom;refine⟨o++o',?_,h2,by rw[Be]; omega,?_⟩
 . rw[h1];by_cases e:k*sz=0<;>simp[Addr.add,e]
 refine⟨by rw[Dg]; exact h.len,h.cap,λe=>absurd e hne2,λ_=>⟨h1,setL o (k*sz) y,o',?_,?_,?_⟩⟩
 . simp only[I00,Az];rw[F0v (by omega)]
 . have:=h3.set0 hk hy q;rw[Am]at this; exact this
 have e1:(setL o (k*sz) y).length=o.length:=by
   have:=(h3.set0 hk hy q).length;rw[Am,Dg]at this;rw[this,h3.length]
 rw[Be,e1,<-h4,Be]
theorem q0h{s t:Sl}(e:s.v=t.v):s=t:=by
 obtain⟨a1,a2,a3⟩:=s;obtain⟨t1,t2,t3⟩:=t;simp only[Sl.v,Value.slice.injEq]at e;obtain⟨e1,e2,e3⟩:=e;subst e1; subst e2; subst e3; rfl
structure MatR (sz:Nat) (P:View->List Value->α->Prop) (m V:View) (p:Sl) (n w:Nat) (A:Nat->Nat->α):Prop where
 len:p.len=n
 ex:∃(b0:Nat) (ss:List Sl) (bs:Nat->Nat),(0<n->p.a=some ⟨b0,0,none⟩/\m b0=some (ss.map Sl.v).toArray)/\ss.length=n/\n<=p.cap /\
  (∀i s,ss[i]?=some s->RowR sz P m V s (bs i) (rowL w (A i)))/\(0<w->∀i j,i<n->j<n->bs i=bs j->i=j)/\(0<w->∀i,i<n->bs i≠b0)
theorem MatR.le(hP:∀ {V V':View},V.le V'->∀x z,P V x z->P V' x z){m V V':View}(hle:V.le V'){p:Sl}{n w:Nat}{A:Nat->Nat->α}(h:MatR sz P m V p n w A):MatR sz P m V' p n w A:=by
 obtain⟨hl,b0,ss,bs,h0,h1,h2,h3,h4,h5⟩:=h;exact⟨hl,b0,ss,bs,h0,h1,h2,λi s hs=>(h3 i s hs).le hP hle,h4,h5⟩
theorem e0o{β γ:Type}{l:List β}{f:β->γ}{i:Nat}{x:β}(h:l[i]?=some x):(l.map f)[i]?=some (f x):=by simp[h]
theorem K0h{m:View}{b:Nat}{cs:List Value}{i:Nat}{v:Value}(h:m b=some cs.toArray)(hv:cs[i]?=some v):m.load (Option.map (λq=>Addr.add q (i*1)) (some ⟨b,0,none⟩))=some v:=by
 have:=g09 (j:=i*1) h;rw[this,Ey,Ct]; exact hv
theorem MatR.row{m V:View}{p:Sl}{n w:Nat}{A:Nat->Nat->α}(h:MatR sz P m V p n w A){i:Nat}(hi:i<n) :
 Option.isSome p.a=true/\∃s:Sl,m.load (Option.map (λq=>Addr.add q (i*1)) p.a)=some s.v/\s.len=w/\s.len<=s.cap/\(0<w->Option.isSome s.a=true)/\(w=0->s.cap=0) /\
  (∀k,k<w->∃x,P V x (A i k)/\x.length=sz/\has2 m V (Option.map (λq=>Addr.add q (k*sz)) s.a) x/\Option.isSome (Option.map (λq=>Addr.add q (k*sz)) s.a)=true) /\
  (∃o,f01 sz P V o (rowL w (A i))/\has2 m V s.a o):=by
 obtain⟨hl,b0,ss,bs,h0,h1,h2,h3,h4,h5⟩:=h;have hss:ss[i]?=some ss[i]:=Ae (by omega);obtain⟨ha,hm⟩:=h0 (by omega);have hr:=h3 i _ hss;refine⟨by rw[ha]; rfl,ss[i],?_,by rw[hr.len,B00],hr.cap,λhw => ?_,λe=>hr.nul (by rw[e]; rfl),λk hk=>hr.get (M04 hk _),hr.all⟩
 . rw[ha]; exact K0h hm (e0o hss)
 rw[(hr.blk (n0k hw _)).1]; rfl
theorem MatR.put{m V:View}{p:Sl}{n w:Nat}{A:Nat->Nat->α}(h:MatR sz P m V p n w A){i k:Nat}(hi:i<n)(hk:k<w){y:List Value}{z:α}(hy:y.length=sz)(q:P V y z){s:Sl}
 (hs:m.load (Option.map (λq=>Addr.add q (i*1)) p.a)=some s.v) :
 Option.isSome s.a=true/\s.len=w/\∃(b c:Nat) (l:List Value),Option.map (λq=>Addr.add q (k*sz)) s.a=some (Addr.mk b c none)/\m b=some l.toArray/\c+sz<=l.length /\
  MatR sz P (I00 m b (setL l c y).toArray) V p n w (λi' k'=>if i'=i then(if k'=k then z else A i k')else A i' k'):=by
 obtain⟨hl,b0,ss,bs,h0,h1,h2,h3,h4,h5⟩:=h;have hss:ss[i]?=some ss[i]:=Ae (by omega);obtain⟨ha,hm⟩:=h0 (by omega);have hs':s=ss[i]:=by
  rw[ha,K0h hm (e0o hss)]at hs;exact(q0h (Option.some.inj hs)).symm
 subst hs';have hr:=h3 i _ hss;obtain⟨l,g1,g2,g3,g4⟩:=hr.put (by rw[B00]; exact hk) hy q;have hb:=(hr.blk (n0k (by omega) _)).1;refine⟨by rw[hb]; rfl,by rw[hr.len,B00],bs i,k*sz,l,g1,g2,g3,hl,b0,ss,bs,λhn=>⟨ha,?_⟩,h1,h2,λi' s' hs' => ?_,h4,h5⟩
 . simp only[I00];rw[if_neg (λe=>h5 (by omega) i hi e.symm)]; exact hm
 by_cases e:i'=i
 . subst e;rw[hss]at hs';obtain rfl:=Option.some.inj hs';simp only[Az];rw[<-T0g]; exact g4
 simp only[if_neg e];have hi':i'<n:=by
  rcases Ad i' ss.length with g|g
  . omega
  rw[Ab g]at hs'; simp at hs'
 refine(h3 i' s' hs').agree λhne => ?_;simp only[I00];rw[if_neg (λe2=>e (h4 (by omega) i' i hi' hi e2))]
theorem MatR.swap{m V:View}{p:Sl}{n w:Nat}{A:Nat->Nat->α}(h:MatR sz P m V p n w A)(hw:0<w){i j:Nat}(hi:i<n)(hj:j<n){s t:Sl}
 (hs:m.load (Option.map (λq=>Addr.add q (i*1)) p.a)=some s.v) (ht:m.load (Option.map (λq=>Addr.add q (j*1)) p.a)=some t.v) :
 ∃(b1 c1:Nat) (l1:List Value),(Option.map (λq=>Addr.add q (j*1)) p.a)=some (Addr.mk b1 c1 none)/\m b1=some l1.toArray/\c1+1<=l1.length /\
  ∃(b2 c2:Nat) (l2:List Value),(Option.map (λq=>Addr.add q (i*1)) p.a)=some (Addr.mk b2 c2 none)/\(I00 m b1 (setL l1 c1 [s.v]).toArray) b2=some l2.toArray/\c2+1<=l2.length /\
   MatR sz P (I00 (I00 m b1 (setL l1 c1 [s.v]).toArray) b2 (setL l2 c2 [t.v]).toArray) V p n w (λi' k'=>if i'=i then A j k' else if i'=j then A i k' else A i' k'):=by
 obtain⟨hl,b0,ss,bs,h0,h1,h2,h3,h4,h5⟩:=h;obtain⟨ha,hm⟩:=h0 (by omega);have which:∀ {i:Nat} (hi:i<n) {s:Sl},m.load (Option.map (λq=>Addr.add q (i*1)) p.a)=some s.v->s=ss[i]:=by
  intro i hi s hs;have hss:ss[i]?=some ss[i]:=Ae (by omega);rw[ha,K0h hm (e0o hss)]at hs;exact(q0h (Option.some.inj hs)).symm
 have es:=which hi hs;have et:=which hj ht;have hadd:∀i:Nat,(Option.map (λq=>Addr.add q (i*1)) p.a)=some (Addr.mk b0 i none):=by
  intro i; rw[ha];by_cases e:i=0<;>simp[Addr.add,e]
 have hset:∀(l:List Value) (c:Nat) (v:Value),setL l c [v]=l.set c v:=λl c v=>by simp[setL]
 refine⟨b0,j,ss.map Sl.v,hadd j,hm,by simp; omega,b0,i,(ss.map Sl.v).set j s.v,hadd i,?_,by simp; omega,hl,b0,(ss.set j s).set i t,λi'=>if i'=i then bs j else if i'=j then bs i else bs i',λ_=>⟨ha,?_⟩,by simp[h1],h2,λi' s' hs' => ?_,λhw a b ha hb hab => ?_,λhw a ha => ?_⟩
 . simp only[I00,Az]; rw[hset]
 . simp only[I00,Az]; rw[hset,Ga,Ga]
 . have hi':i'<n:=by
     rcases Ad i' ((ss.set j s).set i t).length with g|g
     . simpa [h1]using g
     rw[Ab g]at hs'; simp at hs'
   have hag:∀ {s2:Sl} {b:Nat} {row:List α} {x y:Array Value},(b≠b0)->RowR sz P m V s2 b row->RowR sz P (I00 (I00 m b0 x) b0 y) V s2 b row:=by
    intro s2 b row x y hb h;exact h.agree λ_=>by simp[I00,hb]
   rw[As]at hs';by_cases e1:i=i'
   . subst e1;have:s'=t:=by
      rw[if_pos rfl]at hs';split at hs'
      . exact(Option.some.inj hs').symm
      simp at hs'
     subst this;simp only[Az];have:=h3 j ss[j] (Ae (by omega));rw[<-et]at this;exact hag (h5 hw j hj) this
   rw[if_neg e1,As]at hs';simp only[if_neg (show ¬i'=i from λe=>e1 e.symm)];by_cases e2:j=i'
   . subst e2;have:s'=s:=by
      rw[if_pos rfl]at hs';split at hs'
      . exact(Option.some.inj hs').symm
      simp at hs'
     subst this;simp only[Az];have:=h3 i ss[i] (Ae (by omega));rw[<-es]at this;exact hag (h5 hw i hi) this
   rw[if_neg e2]at hs';simp only[if_neg (show ¬i'=j from λe=>e2 e.symm)];exact hag (h5 hw i' hi') (h3 i' s' hs')
 . have inj:=h4 hw;dsimp only at hab;split at hab<;>split at hab<;>(try split at hab)<;>(try split at hab)<;>first
    | omega
    | (have:=inj _ _ (by omega) (by omega) hab; omega)
 dsimp only;split
 . exact h5 hw j hj
 split
 . exact h5 hw i hi
 exact h5 hw a ha
end
section
variable {α:Type} {sz:Nat} {P:View->List Value->α->Prop}
theorem RowR.app{m V:View}{s:Sl}{b:Nat}{row:List α}(h:RowR sz P m V s b row){x:List Value}{z:α}(hx:x.length=sz)(q:P V x z){o:List Value}(hC:f01 sz P V o row)
 {ra:Option Addr} {rc:Nat} {m':View} (ha:AppR m V s.a s.len s.cap 1 sz o x ra rc m') :
 ∃b',RowR sz P m' V ⟨ra,s.len+1,rc⟩ b' (row++[z])/\((row≠[]/\b'=b)\/m b'=none)/\(∀i,i≠b'->m' i=m i):=by
 rcases ha with⟨h0,_⟩|⟨_,h1,h2,h3,bb,off,cs,e1,e2,e3,e4⟩|⟨_,h1,bb,l,e1,_,e2,e3,e4⟩
 . exact absurd h0 (by omega)
 . by_cases hne:row=[]
   . subst hne;have:=h.nul rfl;have:=h.len;simp at this; omega
   obtain⟨g1,o1,o2,g2,g3,g4⟩:=h.blk hne;rw[g1]at e1;obtain⟨rfl,rfl⟩:b=bb/\0=off:=by simpa using e1
   rw[g2]at e2;have e2:o1++o2=cs:=by simpa using e2
   subst e2;have hl1:o1.length=s.len*sz:=by rw[g3.length,h.len]
   refine⟨b,⟨by simp[h.len],by rw[h3]; exact h1,λe=>by simp at e,λ_=>⟨by rw[h2]; exact g1,o1++x,o2.drop sz,?_,g3.append (f01.one hx q),?_⟩⟩,.inl ⟨hne,rfl⟩,λi hi=>by rw[e4]; simp[I00,hi]⟩
   . rw[e4];simp only[I00,Az];have e5:setL (o1++o2) (0+s.len*sz) x=o1++x++o2.drop sz:=by
      have hsz:sz<=o2.length:=by
       rw[Be,hl1]at e3;have:(s.len+1)*sz=s.len*sz+sz:=by rw[Bb,Ea]
       omega
      have e6:o2=o2.take sz++o2.drop sz:=(Dw _ _).symm;have h7:(o2.take sz).length=x.length:=by rw[Dk,hx]; omega
      rw[Am,<-hl1]
      conv=>lhs; rw[e6]
      rw[<-Cq9];exact l0j x o1 (o2.take sz) (o2.drop sz) h7
     rw[e5]
   rw[h3,<-g4];rw[Be,hl1]at e3;have:(s.len+1)*sz=s.len*sz+sz:=by rw[Bb,Ea]
   simp only[Be,Fw,hx];omega
 refine⟨bb,⟨by simp[h.len],e2.le,λe=>by simp at e,λ_=>⟨e3,?_⟩⟩,.inr e1,λi hi=>by rw[e4]; simp[I00,hi]⟩;obtain⟨o',e⟩:=e2.split;refine⟨o++x,o',?_,hC.append (f01.one hx q),?_⟩
 . rw[e4]; simp only[I00,Az]; rw[<-e]
 rw[<-e]; exact e2.len
theorem c0i{m V:View}{xs row:List α}{o:List Value}(hC:f01 sz P V o xs)(hrow:xs=row){a0:Option Addr}{ra:Option Addr}{rc:Nat}{m':View}{n:Nat}(hn:n=row.length)
 (ha:AppR m V a0 0 0 n sz [] o ra rc m') :
 ∃b,RowR sz P m' V ⟨ra,0+n,rc⟩ b row/\(row≠[]->m b=none)/\(∀i,i≠b->m' i=m i)/\(row=[]->m'=m):=by
 subst hrow;rcases ha with⟨h0,h1,h2,h3⟩|⟨_,h1,_⟩|⟨h0,h1,bb,l,e1,_,e2,e3,e4⟩
 . have hx:xs=[]:=Dc.1 (by omega);subst hx;exact⟨0,⟨by simp[h0],by simp[h0],λ_=>h2,λe=>absurd rfl e⟩,λe=>absurd rfl e,λi _=>by rw[h3],λ_=>h3⟩
 . omega
 obtain⟨o',e⟩:=e2.split;refine⟨bb,⟨by simp[hn],e2.le,λe=>by subst e; simp at hn; omega,λ_=>⟨e3,o,o',?_,hC,?_⟩⟩,λ_=>e1,λi hi=>by rw[e4]; simp[I00,hi],λe=>by subst e; simp at hn; omega⟩
 . rw[e4]; simp only[I00,Az]; rw[Ef]at e; rw[<-e]
 rw[Ef]at e; rw[<-e]; exact e2.len
structure x04 (sz:Nat) (P:View->List Value->α->Prop) (m V:View) (o:List Value) (t:Nat) (rows:Nat->List α):Prop where
 ex:∃(S:Nat->Sl) (bs:Nat->Nat),(∀i,i<t->o[i]?=some (S i).v/\RowR sz P m V (S i) (bs i) (rows i))/\(∀i j,i<t->j<t->rows i≠[]->rows j≠[]->bs i=bs j->i=j)
theorem c0t(m V:View)(o:List Value)(rows:Nat->List α):x04 sz P m V o 0 rows:=⟨⟨λ_=>⟨none,0,0⟩,λ_=>0,λi h=>absurd h (by omega),λi _ h=>absurd h (by omega)⟩⟩
theorem x04.le(hP:∀ {V V':View},V.le V'->∀x z,P V x z->P V' x z){m V V':View}(hle:V.le V'){o:List Value}{t:Nat}{rows:Nat->List α}(h:x04 sz P m V o t rows):x04 sz P m V' o t rows:=by
 obtain⟨S,bs,h1,h2⟩:=h;exact⟨S,bs,λi hi=>⟨(h1 i hi).1,(h1 i hi).2.le hP hle⟩,h2⟩
theorem x04.congr{m V:View}{o:List Value}{t:Nat}{rows rows':Nat->List α}(h:x04 sz P m V o t rows)(e:∀i,i<t->rows i=rows' i):x04 sz P m V o t rows':=by
 obtain⟨S,bs,h1,h2⟩:=h;exact⟨S,bs,λi hi=>⟨(h1 i hi).1,e i hi▸(h1 i hi).2⟩,λi j hi hj=>by rw[<-e i hi,<-e j hj]; exact h2 i j hi hj⟩
theorem x04.push{m m' V:View}{o:List Value}{t:Nat}{rows:Nat->List α}(h:x04 sz P m V o t rows)(ht:t<o.length){r:Sl}{b:Nat}{row:List α}(hr:RowR sz P m' V r b row)(hb:row≠[]->m b = .none)(hm:∀i,i≠b\/row=[]->m' i=m i) :
 x04 sz P m' V (o.set t r.v) (t+1) (λi=>if i=t then row else rows i):=by
 obtain⟨S,bs,h1,h2⟩:=h;have hne:∀i,i<t->rows i≠[]->bs i≠b\/row=[]:=λi hi hn=>by
  by_cases e:row=[]
  . exact .inr e
  refine .inl λe2 => ?_;obtain⟨_,o1,o2,g,_⟩:=(h1 i hi).2.blk hn;rw[e2,hb e]at g; simp at g
 refine⟨λi=>if i=t then r else S i,λi=>if i=t then b else bs i,λi hi => ?_,λi j hi hj hni hnj hij => ?_⟩
 . by_cases e:i=t
   . subst e;simp only[Az];exact⟨by simp[ht],hr⟩
   simp only[if_neg e];obtain⟨g1,g2⟩:=h1 i (by omega);exact⟨by rw[As]; rw[if_neg (λx=>e x.symm)]; exact g1,g2.agree λhn=>hm _ (hne i (by omega) hn)⟩
 by_cases e1:i=t<;>by_cases e2:j=t
 . omega
 . simp only[e1,e2,Az,At9]at hni hnj hij;rcases hne j (by omega) hnj with g|g
   . exact absurd hij.symm g
   exact absurd g hni
 . simp only[e1,e2,Az,At9]at hni hnj hij;rcases hne i (by omega) hni with g|g
   . exact absurd hij g
   exact absurd g hnj
 simp only[e1,e2,At9]at hni hnj hij;exact h2 i j (by omega) (by omega) hni hnj hij
theorem x04.row{m V:View}{o:List Value}{t:Nat}{rows:Nat->List α}(h:x04 sz P m V o t rows){i:Nat}(hi:i<t) :
 ∃s:Sl,o[i]?=some s.v/\s.len=(rows i).length/\s.len<=s.cap/\(s.a = .none->s.cap=0)/\(∃o':List Value,has2 m V s.a o'/\o'.length=s.len*sz/\f01 sz P V o' (rows i)) /\
  (∀k,0<k->s.len+k<=s.cap->∃(b off:Nat) (cs:List Value),s.a=some ⟨b,off,.none⟩/\m b=some cs.toArray/\off+(s.len+k)*sz<=cs.length):=by
 obtain⟨S,bs,h1,h2⟩:=h;obtain⟨g1,g2⟩:=h1 i hi;obtain⟨o',hc,ho⟩:=g2.all;refine⟨S i,g1,g2.len,g2.cap,λe => ?_,⟨o',ho,by rw[hc.length,g2.len],hc⟩,λk hk hc => ?_⟩
 . by_cases hne:rows i=[]
   . exact g2.nul hne
   rw[(g2.blk hne).1]at e; simp at e
 by_cases hne:rows i=[]
 . have:=g2.nul hne; omega
 obtain⟨e1,o1,o2,e2,_,e3⟩:=g2.blk hne;exact⟨_,_,_,e1,e2,by rw[e3,Am]; exact Ag _ hc⟩
theorem x04.app{m V:View}{o:List Value}{t:Nat}{rows:Nat->List α}(h:x04 sz P m V o t rows){i:Nat}(hi:i<t){s:Sl}(hs:o[i]?=some s.v){x:List Value}{z:α}(hx:x.length=sz)(q:P V x z){o':List Value}
 (hC:f01 sz P V o' (rows i)) {ra:Option Addr} {rc:Nat} {m':View} (ha:AppR m V s.a s.len s.cap 1 sz o' x ra rc m') :
 x04 sz P m' V (o.set i (Value.slice ra (s.len+1) rc)) t (λj=>if j=i then rows i++[z]else rows j):=by
 obtain⟨S,bs,h1,h2⟩:=h;obtain⟨g1,g2⟩:=h1 i hi;rw[hs]at g1;have es:=q0h (Option.some.inj g1);rw[<-es]at g2;obtain⟨b',e1,e2,e3⟩:=g2.app hx q hC ha;have hlt:i<o.length:=by
  rcases Ad i o.length with g|g
  . exact g
  rw[Ab g]at hs; simp at hs
 have hne:∀j,j<t->j≠i->rows j≠[]->bs j≠b':=λj hj hji hn e=>by
  obtain⟨_,o1,o2,g,_⟩:=(h1 j hj).2.blk hn;rcases e2 with⟨e2,e4⟩|e2
  . exact hji (h2 j i hj hi hn e2 (by rw[e,e4]))
  rw[e,e2]at g; simp at g
 refine⟨λj=>if j=i then⟨ra,s.len+1,rc⟩else S j,λj=>if j=i then b' else bs j,λj hj => ?_,λj k hj hk hnj hnk hjk => ?_⟩
 . by_cases e:j=i
   . subst e;simp only[Az];exact⟨by simp[hlt,Sl.v],e1⟩
   simp only[if_neg e];obtain⟨g3,g4⟩:=h1 j hj;exact⟨by rw[As,if_neg (λx=>e x.symm)]; exact g3,g4.agree λhn=>e3 _ (hne j hj e hn)⟩
 by_cases c1:j=i<;>by_cases c2:k=i
 . omega
 . simp only[c1,c2,Az,At9]at hjk hnk;exact absurd hjk.symm (hne k hk c2 hnk)
 . simp only[c1,c2,Az,At9]at hjk hnj;exact absurd hjk (hne j hj c1 hnj)
 simp only[c1,c2,At9]at hjk hnj hnk;exact h2 j k hj hk hnj hnk hjk
theorem x04.mat{m V:View}{o:List Value}{n w:Nat}{A:Nat->Nat->α}(h:x04 sz P m V o n (λi=>rowL w (A i)))(hn:o.length=n){b:Nat}(hb:m b = .none) :
 MatR sz P (I00 m b o.toArray) V ⟨some ⟨b,0,.none⟩,n,n⟩ n w A:=by
 obtain⟨S,bs,h1,h2⟩:=h;have ho:o=((List.range n).map S).map Sl.v:=by
  apply Cw;intro i;rcases Ad i n with g|g
  . rw[(h1 i g).1]; simp[g]
  rw[Ab (by omega),Ab (by simp; omega)]
 have hne:0<w->∀i,i<n->bs i≠b:=λhw i hi e=>by
  obtain⟨_,o1,o2,g,_⟩:=(h1 i hi).2.blk (n0k hw _);rw[e,hb]at g; simp at g
 refine⟨rfl,b,(List.range n).map S,bs,λ_=>⟨rfl,by rw[<-ho]; simp[I00]⟩,by simp,An9 _,λi s hs => ?_,λhw i j hi hj=>h2 i j hi hj (n0k hw _) (n0k hw _),hne⟩;have hi:i<n:=by
  rcases Ad i n with g|g
  . exact g
  rw[Ab (by simp; omega)]at hs; simp at hs
 have:s=S i:=by simp[hi]at hs; exact hs.symm
 subst this;refine(h1 i hi).2.agree λhr => ?_;have hw:0<w:=by
  rcases Ap w with e|e
  . subst e; exact absurd rfl hr
  exact e
 simp[I00,hne hw i hi]
def c01(sz:Nat)(P:View->List Value->α->Prop)(V:View)(p:Sl)(rows:List (List α)):Prop :=
 n00 1 (λV x row=>∃s:Sl,x=[s.v]/\n00 sz P V s row) V p rows
theorem c01.le(hP:∀ {V V':View},V.le V'->∀x z,P V x z->P V' x z){V V':View}(hle:V.le V'){p:Sl}{rows:List (List α)}(h:c01 sz P V p rows):c01 sz P V' p rows :=
 n00.le (V:=V) (V':=V') (λ_ _ ⟨s,e,hs⟩=>⟨s,e,n00.le (hP hle) hle hs⟩) hle h
theorem a10{V:View}{p:Option Addr}{v:Value}(h:V.has p [v]):V.load p=some v:=by
 have:=h 0 v rfl;cases p with
 | none=>exact this
 | some a=>simpa [Addr.add]using this
theorem c01.row{V:View}{p:Sl}{rows:List (List α)}(h:c01 sz P V p rows){t:Int}(h0:0<=t){row:List α}(hr:rows[t.toNat]?=some row) :
 ((0:Int)<=t/\t<(p.len:Nat)/\Option.isSome p.a=true)/\∃s:Sl,V.load (Option.map (λq=>Addr.add q (Int.toNat t*1)) p.a)=some s.v/\n00 sz P V s row:=by
 obtain⟨hb,x,⟨s,e,hs⟩,_,h1,h2⟩:=n00.get h h0 hr;subst e;exact⟨hb,s,a10 h1,hs⟩
theorem f01.at{V:View}{zs:List α}{o:List Value}(h:f01 sz P V o zs){i:Nat}{z:α}(hi:zs[i]?=some z) :
 ∃x,P V x z/\x.length=sz/\List.take sz (List.drop (0+i*sz) o)=x:=by
 obtain⟨x,p,hx,hg⟩:=h.get hi;refine⟨x,p,hx,?_⟩;rw[Am];apply Cw;intro j;rcases Ad j sz with g|g
 . rw[Bo g,Da,hg j x[j] (by simp)];exact(Ae (by omega)).symm
 rw[Ab (by simp; omega),Ab (by omega)]
theorem f01.drop{V:View}:∀ {zs:List α} {o:List Value} (k:Nat),f01 sz P V o zs->f01 sz P V (o.drop (k*sz)) (zs.drop k)
 | [],o,k,h=>by rw[show o=[]from h]; simp; rfl
 | z::zs,o,0,h=>by simpa using h
 | z::zs,_,k+1,⟨x,o',e,hx,p,h⟩=>by
   rw[e,Bb,Ea,Gb,<-hx,List.drop_length_add_append,hx];exact h.drop k
def matL(n w:Nat)(A:Nat->Nat->α):List (List α):=(List.range n).map λi=>rowL w (A i)
theorem O00(n w:Nat)(A:Nat->Nat->α):(matL n w A).length=n:=by simp[matL]
theorem W06{n w i:Nat}(h:i<n)(A:Nat->Nat->α):(matL n w A)[i]?=some (rowL w (A i)):=by simp[matL,h]
theorem b0f{n w:Nat}{A B:Nat->Nat->α}(h:∀i k,i<n->k<w->A i k=B i k):matL n w A=matL n w B:=by
 unfold matL; exact Ch λi hi=>I06 λk hk=>h i k (by simpa using hi) hk
theorem RowR.known{m V V':View}{s:Sl}{b:Nat}{row:List α}(h:RowR sz P m V s b row)(hP:∀x z,P V x z->P V' x z)(hm:∀b cs,m b=some cs->V' b=some cs):n00 sz P V' s row:=by
 by_cases hne:row=[]
 . subst hne;exact⟨h.len,h.cap,λe=>absurd rfl e,[],by intro j v hj; simp at hj,rfl⟩
 obtain⟨h1,o,o',h2,h3,h4⟩:=h.blk hne;obtain⟨a,n,c⟩:=s;exact n00.of_block (o:=o) (o':=o') (b:=b) (λ_=>hm _ _ h2) (h3.imp hP) h.len h.cap (λ_=>h1)
theorem d0i{V:View}:∀ {xs:List Value} {rows:List (List α)},xs.length=rows.length->(∀(i:Nat) (x:Value) (row:List α),xs[i]?=some x->rows[i]?=some row->∃s:Sl,x=s.v/\n00 sz P V s row) ->
 f01 1 (λV x row=>∃s:Sl,x=[s.v]/\n00 sz P V s row) V xs rows
 | [],[],_,_=>rfl
 | [],_::_,h,_=>by simp at h
 | _::_,[],h,_=>by simp at h
 | x::xs,row::rows,h,hg=>by
   obtain⟨s,e,hs⟩:=hg 0 x row rfl rfl;exact⟨[x],xs,rfl,rfl,⟨s,by rw[e],hs⟩,d0i (by simpa using h) λi y r hy hr=>hg (i+1) y r (by simpa using hy) (by simpa using hr)⟩
theorem MatR.known{m V V':View}{p:Sl}{n w:Nat}{A:Nat->Nat->α}(h:MatR sz P m V p n w A)(hP:∀x z,P V x z->P V' x z)(hm:∀b cs,m b=some cs->V' b=some cs):c01 sz P V' p (matL n w A):=by
 obtain⟨hl,b0,ss,bs,h0,h1,h2,h3,h4,h5⟩:=h;have hC:f01 1 (λV x row=>∃s:Sl,x=[s.v]/\n00 sz P V s row) V' (ss.map Sl.v) (matL n w A):=by
  refine d0i (by rw[Bt,h1,O00]) λi x row hx hr => ?_;have hi:i<n:=by
   rcases Ad i n with g|g
   . exact g
   rw[Ab (by simp; omega)]at hx; simp at hx
  have hss:ss[i]?=some ss[i]:=Ae (by omega);rw[e0o hss]at hx;rw[W06 hi]at hr;obtain rfl:=Option.some.inj hx;obtain rfl:=Option.some.inj hr;exact⟨ss[i],rfl,(h3 i _ hss).known hP hm⟩
 obtain⟨a,l,c⟩:=p;dsimp only at hl h0 h2;rcases Ap n with e|e
 . subst e;have:ss=[]:=Dc.1 h1;subst this;exact⟨by rw[hl,O00],by rw[hl]; exact h2,λe=>absurd rfl e,[],by intro j v hj; simp at hj,rfl⟩
 obtain⟨ha,hm0⟩:=h0 e;exact n00.of_block (o:=ss.map Sl.v) (o':=[]) (b:=b0) (λ_=>by simpa using hm _ _ hm0) hC (by rw[O00]; exact hl) (by rw[hl]; exact h2) (λ_=>ha)
theorem e0i(V:View)(w:Nat):x04 sz P (λ_=>none) V (List.replicate w (Value.slice none 0 0)) w (λ_=>([]:List α)) :=
 ⟨λ_=>⟨none,0,0⟩,λ_=>0,λi hi=>⟨by simp[hi]; rfl,rfl,An9 _,λ_=>rfl,λh=>absurd rfl h⟩,λi j _ _ h=>absurd rfl h⟩
theorem f10(w:Nat)(v:Value):(List.replicate w [v]).flatten=List.replicate w v:=by
 induction w with
 | zero=>rfl
 | succ w ih=>rw[Ec,List.flatten_cons,ih]; rfl
theorem x04.knownL(hP:∀ {V V':View},V.le V'->∀x z,P V x z->P V' x z){m V V':View}{o:List Value}{n w b:Nat}{A:Nat->Nat->α}(h:x04 sz P m V o n (λi=>rowL w (A i)))(hn:o.length=n)(hl:View.le V V')(hm:∀b cs,m b=some cs->V' b=some cs)(hb:V' b=some o.toArray) :
 c01 sz P V' ⟨some ⟨b,0,none⟩,n,n⟩ (matL n w A):=by
 obtain⟨S,bs,h1,h2⟩:=h;have hC:f01 1 (λV x row=>∃s:Sl,x=[s.v]/\n00 sz P V s row) V' o (matL n w A):=by
  refine d0i (by rw[hn,O00]) λi x row hx hr => ?_;have hi:i<n:=by
   rcases Ad i n with g|g
   . exact g
   rw[Ab (by omega)]at hx; simp at hx
  rw[W06 hi]at hr;obtain rfl:=Option.some.inj hr;rw[(h1 i hi).1]at hx;obtain rfl:=Option.some.inj hx;exact⟨S i,rfl,(h1 i hi).2.known (hP hl) hm⟩
 exact W01 hb hC (by rw[O00])
end
def boolC(_:View)(x:List Value)(b:Bool):Prop:=x=[.bool b]
theorem boolC.le{V V':View}(_:V.le V')(x:List Value)(b:Bool)(h:boolC V x b):boolC V' x b:=h
theorem oneL{V:View}{x:List Value}{b:Bool}(h:boolC V x b):∀v∈x,Value.oneCell' v=true:=by
 subst h; intro v hv; simp at hv; subst hv; rfl
section
variable {α β:Type}
theorem M08{l:List α}{i:Nat}(h:i<l.length)(d:α):l[i]?=some (l.getD i d):=by simp[List.getD,h]
def T01(rows:List (List α)):Nat:=(rows.headD []).length
def B07(n:Nat)(row:List α):Bool:=decide (1<=row.length)&&(decide (row.length<=64)&&decide (row.length=n))
def y05(rows:List (List α)):Bool:=decide (1<=rows.length)&&(decide (rows.length<=64)&&rows.all (B07 (T01 rows)))
def u0f(rows:List (List α)):Int:=if y05 rows=true then 0 else 4
def o0e(rows:List (List α)):List (List α):=if y05 rows=true then rows else []
def Rect(rows:List (List α)):Prop:=∀row,row∈rows->row.length=T01 rows
theorem A0x{rows:List (List α)}(h:0<rows.length):∃row,rows[0]?=some row/\row.length=T01 rows:=by
 cases rows with
 | nil=>simp at h
 | cons a l=>exact⟨a,rfl,rfl⟩
def atG(d:α)(rows:List (List α)):Nat->Nat->α:=λi k=>(rows.getD i []).getD k d
def c0g(d:α)(rows:List (List α)):List (List α):=matL (T01 rows) rows.length (λj i=>atG d rows i j)
theorem z0i(d:α)(rows:List (List α)):(c0g d rows).length=T01 rows:=O00 _ _ _
theorem G0v(d:α)(rows:List (List α)):Rect (c0g d rows):=by
 intro row hr;unfold c0g matL at hr;obtain⟨i,hi,rfl⟩:=Bc.1 hr;rw[B00];have hi:i<T01 rows:=by simpa using hi
 unfold T01 c0g matL;obtain⟨w,e⟩:∃w,T01 rows=w+1:=⟨T01 rows-1,by omega⟩;rw[e,List.range_succ_eq_map];simp[B00]
theorem H0v(d:α){rows:List (List α)}(h:0<T01 rows):T01 (c0g d rows)=rows.length:=by
 have hl:0<(c0g d rows).length:=by rw[z0i]; exact h
 obtain⟨row,e,e2⟩:=A0x hl;unfold c0g at e;rw[W06 (by exact h)]at e;rw[<-e2,<-Option.some.inj e,B00]
theorem p0e{rows:List (List α)}(h:Rect rows){i:Nat}{row:List α}(hr:rows[i]?=some row):row.length=T01 rows:=h row (Bn hr)
theorem I0a{rows:List (List α)}(h:0<rows.length):∃row,rows[0]?=some row/\row.length=T01 rows:=by
 cases rows with
 | nil=>simp at h
 | cons a l=>exact⟨a,rfl,rfl⟩
end
def infR:Nat:=9218868437227405312
def rm(r:Nat):Nat:=if r<2^52 then r else(2^52+r%2^52)*2^(r / 2^52-1)
theorem q0e{m e:Nat}(h:(e=0\/2^52<=m)/\m<=2^53):rm (e*2^52+m)=m*2^e:=by
 obtain⟨h1,h2⟩:=h;unfold rm;by_cases c:m<2^52
 . have:e=0:=by omega
   subst this;rw[if_pos (by omega)]; simp
 rw[if_neg (by omega)];by_cases c2:m<2^53
 . have e1:(e*2^52+m) / 2^52=e+1:=by omega
   have e2:(e*2^52+m)%2^52=m-2^52:=by omega
   rw[e1,e2];have:2^52+(m-2^52)=m:=by omega
   rw[this,Cf]
 have hm:m=2^53:=by omega
 subst hm;have e1:(e*2^52+2^53) / 2^52=e+2:=by omega
 have e2:(e*2^52+2^53)%2^52=0:=by omega
 rw[e1,e2];have e3:e+2-1=e+1:=by omega
 have e4:2^(e+1)=2^e*2:=Ba 2 e;rw[e3,e4];generalize 2^e=x;omega
theorem C0m(r:Nat):∃m,r=(r / 2^52-1)*2^52+m/\(r / 2^52-1=0\/2^52<=m)/\m<2^53:=by
 refine⟨r-(r / 2^52-1)*2^52,?_⟩;omega
theorem B0x(r:Nat):rm (r+1)=rm r+2^(r / 2^52-1):=by
 obtain⟨m,h1,h2,h3⟩:=C0m r;generalize r / 2^52-1=e at h1 h2;subst h1;rw[Ej,q0e ⟨by omega,by omega⟩,q0e ⟨by omega,by omega⟩,Bb,Ea]
theorem j0q{a b:Nat}(h:a<b):rm a<rm b:=by
 obtain⟨d,rfl⟩:∃d,b=a+1+d:=⟨b-(a+1),by omega⟩
 induction d with
 | zero=>rw[Dm,B0x]; have:0<2^(a / 2^52-1):=Bi (by omega); omega
 | succ d ih =>
   rw[<-Ej,B0x];have:=ih (by omega);have h2:0<2^((a+1+d) / 2^52-1):=Bi (by omega);omega
theorem s0e{a b:Nat}:rm a<rm b↔a<b:=by
 refine⟨λh => ?_,j0q⟩;rcases Ad a b with c|c
 . exact c
 rcases Nat.eq_or_lt_of_le c with c|c
 . subst c; omega
 have:=j0q c; omega
theorem t0e{a b:Nat}:rm a<=rm b↔a<=b:=by
 rw[<-Nat.not_lt,<-Nat.not_lt,s0e]
theorem k14{a b:Nat}(h:rm a=rm b):a=b:=by
 have h1:=s0e (a:=a) (b:=b);have h2:=s0e (a:=b) (b:=a);omega
theorem o0k:rm 0=0:=by decide
theorem P11{a:Nat}(h:0<a):0<rm a:=by have:=j0q h; rw[o0k]at this; exact this
theorem p0k:Ieee.double.infRung=infR:=by decide
theorem u0e:Ieee.double.binade=2^52:=rfl
theorem f0o:Ieee.double.signWeight=2^63:=rfl
theorem c0f:Ieee.double.leastPlace = -1074:=by decide
def okW(w:Nat):Prop:=w<2^64/\w%2^63<=infR
instance (w:Nat):Decidable (okW w):=inferInstanceAs (Decidable (_/\_))
def finW(w:Nat):Prop:=w<2^64/\w%2^63<infR
theorem i10{w:Nat}(h:w%2^63<infR) :
 ∃m e:Nat,Ieee.double.read w = .number (w / 2^63%2==1) m (-1074+(e:Int))/\rm (w%2^63)=m*2^e/\((e=0\/2^52<=m)/\m<2^53)/\w%2^63=e*2^52+m:=by
 unfold Ieee.Format.read;simp only[u0e,f0o,p0k,c0f];generalize w%2^63=r at h;by_cases c:r<2^52
 . rw[if_pos c];refine⟨r,0,by simp,?_,⟨by omega,by omega⟩,by omega⟩;unfold rm; rw[if_pos c]; omega
 rw[if_neg c,if_pos h];refine⟨2^52+r%2^52,r / 2^52-1,rfl,?_,⟨by omega,by omega⟩,by omega⟩;unfold rm; rw[if_neg c]
theorem m0j{w:Nat}(h:w%2^63=infR):Ieee.double.read w = .infinity (w / 2^63%2==1):=by
 unfold Ieee.Format.read;simp only[u0e,f0o,p0k,c0f,h];rw[if_neg (by decide),if_neg (by decide),if_pos trivial]
theorem j10{w:Nat}(h:infR<w%2^63):∃s f,Ieee.double.read w = .nan s f:=by
 unfold Ieee.Format.read;simp only[u0e,f0o,p0k,c0f];have:2^52<=infR:=by decide
 rw[if_neg (by omega),if_neg (by omega),if_neg (by omega)];exact⟨_,_,rfl⟩
def key(w:Nat):Int:=if w<2^63 then(w:Int)else -((w-2^63:Nat):Int)
def kz(k:Int):Int:=if k<0 then -(rm k.natAbs:Int)else(rm k.natAbs:Int)
theorem o14{a b:Int}(h:a<b):kz a<kz b:=by
 unfold kz;split<;>split
 . have:=j0q (a:=b.natAbs) (b:=a.natAbs) (by omega); omega
 . have:=P11 (a:=a.natAbs) (by omega); omega
 . omega
 have:=j0q (a:=a.natAbs) (b:=b.natAbs) (by omega); omega
theorem k0q{a b:Int}:kz a<kz b↔a<b:=by
 refine⟨λh => ?_,o14⟩;rcases Int.lt_or_le a b with c|c
 . exact c
 rcases Int.lt_or_eq_of_le c with c|c
 . have:=o14 c; omega
 subst c; omega
theorem q0k{w:Nat}(h:w<2^64):(w / 2^63%2==1)=decide (2^63<=w):=by
 by_cases c:w<2^63
 . have:w / 2^63=0:=by omega
   rw[this,Ao (by omega)]; rfl
 have:w / 2^63=1:=by omega
 rw[this,Aq (by omega)]; rfl
theorem g0o{w:Nat}(h:w<2^64):(key w).natAbs=w%2^63:=by
 unfold key; split<;>omega
theorem C0x{a b c d:Int}(h1:a<b↔c<d)(h2:b<a↔d<c):compare a b=compare c d:=by
 show compareOfLessAndEq a b=compareOfLessAndEq c d;unfold compareOfLessAndEq;by_cases x:a<b
 . rw[if_pos x,if_pos (h1.1 x)]
 rw[if_neg x,if_neg (λy=>x (h1.2 y))];by_cases y:a=b
 . rw[if_pos y,if_pos (by omega)]
 rw[if_neg y,if_neg (by omega)]
theorem A0i{s:Bool}{m u e g:Nat}(h:u+g=e):Ieee.signed s m u*((2^g:Nat):Int)=if s then -((m*2^e:Nat):Int)else((m*2^e:Nat):Int):=by
 unfold Ieee.signed;rw[Nat.shiftLeft_eq];have:m*2^e=m*2^u*2^g:=by rw[<-h,Av,Bj]
 rw[this];cases s<;>simp[Int.neg_mul]
theorem i0o{w:Nat}(h:finW w):∃m e:Nat,Ieee.double.read w = .number (decide (2^63<=w)) m (-1074+(e:Int))/\(if decide (2^63<=w)=true then -((m*2^e:Nat):Int)else((m*2^e:Nat):Int))=kz (key w):=by
 obtain⟨m,e,h1,h2,_⟩:=i10 h.2;rw[q0k h.1]at h1;refine⟨m,e,h1,?_⟩;rw[<-h2];unfold kz;rw[g0o h.1];by_cases c:2^63<=w
 . rw[if_pos (by simpa using c)];by_cases z:key w<0
   . rw[if_pos z]
   rw[if_neg z];have:w%2^63=0:=by unfold key at z; split at z<;>omega
   rw[this,o0k]; rfl
 rw[if_neg (by simpa using c),if_neg (by unfold key; rw[if_pos (by omega)]; omega)]
theorem j0o{w:Nat}(h:okW w)(hi:w%2^63=infR):key w=if decide (2^63<=w)=true then -(infR:Int)else(infR:Int):=by
 obtain⟨h1,h2⟩:=h;by_cases c:2^63<=w
 . rw[Aq c,if_pos rfl];unfold key infR at *;rw[if_neg (by omega)]; omega
 rw[Ao c,if_neg (by simp)];unfold key infR at *;rw[if_pos (by omega)]; omega
theorem D0x{w:Nat}(h:finW w) : -(infR:Int)<key w/\key w<(infR:Int):=by
 obtain⟨h1,h2⟩:=h;unfold key infR at *;split<;>omega
theorem okW.cases{w:Nat}(h:okW w):finW w\/w%2^63=infR:=by
 rcases Ad (w%2^63) infR with c|c
 . exact .inl ⟨h.1,c⟩
 exact .inr (by have:=h.2; omega)
theorem q0b{x y:Nat}(hx:okW x)(hy:okW y):FloatKind.f64.format.order x y=some (compare (key x) (key y)):=by
 show(Ieee.double.read x).order (Ieee.double.read y)=_;have hI:(0:Int)<(infR:Int):=by decide
 rcases hx.cases with fx|ix<;>rcases hy.cases with fy|iy
 . obtain⟨m,e,h1,h2⟩:=i0o fx;obtain⟨n,g,h3,h4⟩:=i0o fy;rw[h1,h3];simp only[Ieee.Datum.order];have b1:(-1074+(e:Int)-min (-1074+(e:Int)) (-1074+(g:Int))).toNat+min e g=e:=by omega
   have b2:(-1074+(g:Int)-min (-1074+(e:Int)) (-1074+(g:Int))).toNat+min e g=g:=by omega
   have s1:=A0i (s:=decide (2^63<=x)) (m:=m) b1;have s2:=A0i (s:=decide (2^63<=y)) (m:=n) b2;rw[h2]at s1;rw[h4]at s2;have hp:(0:Int)<((2^min e g:Nat):Int):=by have:0<2^min e g:=Bi (by omega); omega
   congr 1;refine C0x ?_ ?_
   . refine Iff.trans ?_ k0q;rw[<-s1,<-s2]; exact(Int.mul_lt_mul_right hp).symm
   refine Iff.trans ?_ k0q;rw[<-s1,<-s2]; exact(Int.mul_lt_mul_right hp).symm
 . obtain⟨m,e,h1,h2⟩:=i0o fx;have k:=D0x fx;rw[h1,m0j iy,q0k hy.1,j0o hy iy];simp only[Ieee.Datum.order];cases decide (2^63<=y)
   . simp only[Fl,At9];congr 1;show _=compareOfLessAndEq _ _;unfold compareOfLessAndEq; rw[if_pos (by omega)]
   simp only[Az];congr 1;show _=compareOfLessAndEq _ _;unfold compareOfLessAndEq; rw[if_neg (by omega),if_neg (by omega)]
 . obtain⟨m,e,h1,h2⟩:=i0o fy;have k:=D0x fy;rw[h1,m0j ix,q0k hx.1,j0o hx ix];simp only[Ieee.Datum.order];cases decide (2^63<=x)
   . simp only[Fl,At9];congr 1;show _=compareOfLessAndEq _ _;unfold compareOfLessAndEq; rw[if_neg (by omega),if_neg (by omega)]
   simp only[Az];congr 1;show _=compareOfLessAndEq _ _;unfold compareOfLessAndEq; rw[if_pos (by omega)]
 rw[m0j ix,m0j iy,q0k hx.1,q0k hy.1,j0o hx ix,j0o hy iy];simp only[Ieee.Datum.order];cases decide (2^63<=x)<;>cases decide (2^63<=y)<;>decide
theorem d0g{x y:Nat}(h:infR<x%2^63):FloatKind.f64.format.order x y=none:=by
 show(Ieee.double.read x).order (Ieee.double.read y)=_;obtain⟨s,f,e⟩:=j10 h;rw[e]; rfl
theorem Q11{x y:Nat}(hx:okW x)(hy:okW y):(FloatKind.f64.format.order x y==some .lt)=decide (key x<key y):=by
 rw[q0b hx hy];show(some (compareOfLessAndEq _ _)==_)=_;unfold compareOfLessAndEq;by_cases c:key x<key y
 . rw[if_pos c,Aq c]; rfl
 rw[if_neg c,Ao c]; split<;>rfl
theorem y0t{x y:Nat}(hx:okW x)(hy:okW y):(FloatKind.f64.format.order x y==some .gt)=decide (key y<key x):=by
 rw[q0b hx hy];show(some (compareOfLessAndEq _ _)==_)=_;unfold compareOfLessAndEq;by_cases c:key x<key y
 . rw[if_pos c,Ao (by omega)]; rfl
 rw[if_neg c];by_cases c2:key x=key y
 . rw[if_pos c2,Ao (by omega)]; rfl
 rw[if_neg c2,Aq (by omega)]; rfl
theorem E0x{x y:Nat}(hx:okW x)(hy:okW y):(FloatKind.f64.format.order x y==some .eq)=decide (key x=key y):=by
 rw[q0b hx hy];show(some (compareOfLessAndEq _ _)==_)=_;unfold compareOfLessAndEq;by_cases c:key x<key y
 . rw[if_pos c,Ao (by omega)]; rfl
 rw[if_neg c];by_cases c2:key x=key y
 . rw[if_pos c2,Aq c2]; rfl
 rw[if_neg c2,Ao c2]; rfl
theorem p14{x y:Nat}(hx:okW x)(hy:okW y):((FloatKind.f64.format.order x y==some .gt)||(FloatKind.f64.format.order x y==some .eq))=decide (key y<=key x):=by
 rw[y0t hx hy,E0x hx hy,<-Bool.decide_or]; congr 1; apply propext; omega
def m07(k:Int):Nat:=if k<0 then 2^63+k.natAbs else k.natAbs
theorem k10{k:Int}(h1 : -(infR:Int)<=k)(h2:k<=(infR:Int)):okW (m07 k):=by
 unfold m07 okW infR at *; split<;>omega
theorem F0x{k:Int}(h1 : -(infR:Int)<=k)(h2:k<=(infR:Int)):key (m07 k)=k:=by
 unfold key m07 infR at *;by_cases c:k<0
 . rw[if_pos c,if_neg (by omega)]; omega
 rw[if_neg c,if_pos (by omega)]; omega
theorem w0d{w:Nat}(h:w<2^64):Op.negFloat .f64 w=if w<2^63 then w+2^63 else w-2^63:=by
 show w ^^^ 2^63=_;have h1:(w ^^^ 2^63)%2^63=w%2^63:=by
  rw[Nat.xor_mod_two_pow,Nat.mod_self,Nat.xor_zero]
 have h2:(w ^^^ 2^63) / 2^63=w / 2^63 ^^^ 1:=by
  rw[Nat.xor_div_two_pow,Nat.div_self (by omega)]
 by_cases c:w<2^63
 . rw[if_pos c];have e:w / 2^63=0:=by omega
   rw[e]at h2;have h3:(0 ^^^ 1:Nat)=1:=by decide
   rw[h3]at h2;omega
 rw[if_neg c];have e:w / 2^63=1:=by omega
 rw[e]at h2;have h3:(1 ^^^ 1:Nat)=0:=by decide
 rw[h3]at h2;omega
theorem l0q{w:Nat}(h:okW w):okW (Op.negFloat .f64 w)/\key (Op.negFloat .f64 w) = -key w:=by
 rw[w0d h.1];obtain⟨h1,h2⟩:=h;unfold okW key infR at *;by_cases c:w<2^63
 . rw[if_pos c,if_pos c];refine⟨by omega,?_⟩;rw[if_neg (by omega)]; omega
 rw[if_neg c,if_neg c];refine⟨by omega,?_⟩;rw[if_pos (by omega)]; omega
theorem m0q{neg:Bool}{q drop:Nat}(h:q≠0):Ieee.Toward.even.cut neg (q*2^drop) drop=q:=by
 have hp:0<2^drop:=Bi (by omega);have hn:q*2^drop≠0:=Bz h (by omega);have hle:2^drop<=q*2^drop:=Gc _ (by omega);have hl:drop<=(q*2^drop).log2:=(Nat.le_log2 hn).2 hle;unfold Ieee.Toward.cut;have e:1 <<< min drop ((q*2^drop).log2+2)=2^drop:=by
  rw[Cj (by omega),Nat.shiftLeft_eq,Ea]
 simp only[e,Nat.mul_div_cancel _ hp,Nat.mul_mod_left];have h1:decide (2^drop<2*0)=false:=by simp
 have h2:(2^drop==2*0)=false:=by simp
 rw[h1,h2]; simp
theorem n0j{n k:Nat}(h:n≠0):(n*2^k).log2=n.log2+k:=by
 have hn:n*2^k≠0:=Bz h (by have:0<2^k:=Bi (by omega); omega);have h1:=(Ei h (k:=n.log2)).1 rfl;refine(Ei hn).2 ⟨?_,?_⟩
 . rw[Av]; exact Ag _ h1.1
 have e:n.log2+k+1=(n.log2+1)+k:=by omega
 rw[e,Av]; exact Bh h1.2 (Bi (by omega))
theorem x0d{neg:Bool}{mag:Nat}{place:Int}{r:Nat}(hr:r<infR)(h0:mag≠0){a b:Nat}(hab:place+1074=(a:Int)-b)(h:mag*2^a=rm r*2^b) :
 Ieee.double.nearest neg mag place=Ieee.double.word neg r:=by
 obtain⟨m,h1,h2,h3⟩:=C0m r;generalize r / 2^52-1=e at h1 h2;have hrm:rm r=m*2^e:=by rw[h1]; exact q0e ⟨by omega,by omega⟩
 rw[hrm,Bj,<-Av]at h;have hpa:0<2^a:=Bi (by omega);have hm:m≠0:=by
  intro c; rw[c,Cy]at h;have:=Bz h0 (by omega:2^a≠0);omega
 have hlog:=Ck Nat.log2 h;rw[n0j h0,n0j hm]at hlog;have hlast:max (place+(mag.log2:Int)-(Ieee.double.fractionBits:Int)) Ieee.double.leastPlace=(e:Int)-1074:=by
  rw[c0f];show max (place+(mag.log2:Int)-52) (-1074)=_;rcases h2 with h2|h2
  . have:m.log2<=52:=by
      have:=(Nat.log2_lt hm (k:=53)).2 h3;omega
    omega
  have:m.log2=52:=(Ei hm).2 ⟨h2,h3⟩;omega
 unfold Ieee.Format.nearest;rw[if_neg h0];simp only[hlast];have hkept:Ieee.Toward.even.cut neg (mag <<< (place-((e:Int)-1074)).toNat) ((e:Int)-1074-place).toNat=m:=by
  rw[Nat.shiftLeft_eq];by_cases c:e+b<=a
  . have e1:(place-((e:Int)-1074)).toNat=a-(e+b):=by omega
    have e2:((e:Int)-1074-place).toNat=0:=by omega
    rw[e1,e2];have:mag*2^(a-(e+b))=m:=by
     have hp:0<2^(e+b):=Bi (by omega);refine Fn9 hp ?_;rw[Bj,<-Av,Nat.sub_add_cancel c,h]
    rw[this];have:=m0q (neg:=neg) (drop:=0) hm;rw[Eo,Ct]at this; exact this
  have e1:(place-((e:Int)-1074)).toNat=0:=by omega
  have e2:((e:Int)-1074-place).toNat=e+b-a:=by omega
  rw[e1,e2,Eo,Ct];have:mag=m*2^(e+b-a):=by
   refine Fn9 hpa ?_;rw[Bj,<-Av,Nat.sub_add_cancel (by omega),h]
  rw[this];exact m0q hm
 rw[hkept,c0f,u0e,p0k];have e3:((e:Int)-1074 - -1074).toNat=e:=by omega
 rw[e3,<-h1,Cj (by omega)]
theorem D0l{neg:Bool}{mag:Nat}{place:Int}{r:Nat}(hr:r<infR)(h0:mag≠0){a:Nat}(hab:place+1074=(a:Int))(h:mag*2^a=rm r) :
 Ieee.double.nearest neg mag place=Ieee.double.word neg r:=x0d hr h0 (a:=a) (b:=0) (by omega) (by rw[h,Eo,Ct])
theorem H12{n k:Nat}(h0:n≠0)(h:n<2^53):∃r,rm r=n*2^k/\(52<=n.log2+k->r=(n.log2+k-52)*2^52+n*2^(52-n.log2)/\2^52<=n*2^(52-n.log2)/\n*2^(52-n.log2)<2^53):=by
 have hl:=(Ei h0 (k:=n.log2)).1 rfl;have h52:n.log2<=52:=by have:=(Nat.log2_lt h0 (k:=53)).2 h; omega
 by_cases c:52<=n.log2+k
 . have b1:2^52<=n*2^(52-n.log2):=by
     have e:(2:Nat)^52=2^n.log2*2^(52-n.log2):=by rw[<-Av]; congr 1; omega
     rw[e]; exact Ag _ hl.1
   have b2:n*2^(52-n.log2)<2^53:=by
    have e:(2:Nat)^53=2^(n.log2+1)*2^(52-n.log2):=by rw[<-Av]; congr 1; omega
    rw[e]; exact Bh hl.2 (Bi (by omega))
   refine⟨(n.log2+k-52)*2^52+n*2^(52-n.log2),?_,λ_=>⟨rfl,b1,b2⟩⟩;rw[q0e ⟨.inr b1,by omega⟩,Bj,<-Av];congr 2; omega
 refine⟨n*2^k,?_,λh=>absurd h c⟩;have:n*2^k<2^52:=by
  have h1:n*2^k<2^(n.log2+1)*2^k:=Bh hl.2 (Bi (by omega));rw[<-Av]at h1;have h2:2^(n.log2+1+k)<=2^52:=Ar (by omega) (by omega);omega
 unfold rm; rw[if_pos this]
theorem q14{r e:Nat}(h:r=e*2^52+2^52):rm r=2^52*2^e:=by rw[h]; exact q0e ⟨.inr (An9 _),by omega⟩
theorem s14{r e:Nat}(h:r=e*2^52+(2^53-1)):rm r=(2^53-1)*2^e:=by rw[h]; exact q0e ⟨.inr (by omega),by omega⟩
theorem G0x{a b:Nat}(h:a<b):2^a<2^b:=(Bu (by omega)).2 h
theorem u14{a b:Nat}(h:a=b+1):2^52*2^a=2^53*2^b:=by
 subst h; rw[Ba]; omega
theorem k0o{e:Nat}(he:e=2046):rm infR=2^(52+e):=by
 rw[Av]; exact q14 (by subst he; decide)
theorem w14{r n k:Nat}(h:rm r=n*2^k)(hn:n.log2+k<2098)(h0:n≠0):r<infR:=by
 obtain⟨e,he⟩:∃e,e=2046:=⟨_,rfl⟩;rw[<-s0e,h,k0o he];have hl:=(Ei h0 (k:=n.log2)).1 rfl;have h1:n*2^k<2^(n.log2+1)*2^k:=Bh hl.2 (Bi (by omega));rw[<-Av]at h1;exact Cm h1 (Ar (by omega) (by omega))
theorem y14{r n k:Nat}(h:rm r=n*2^k)(hr:r<infR)(h0:n≠0):n.log2+k<2098:=by
 obtain⟨e,he⟩:∃e,e=2046:=⟨_,rfl⟩;rw[<-s0e,h,k0o he]at hr;have hl:=(Ei h0 (k:=n.log2)).1 rfl;have h1:2^n.log2*2^k<=n*2^k:=Ag _ hl.1;rw[<-Av]at h1;have h2:2^(n.log2+k)<2^(52+e):=Cs9 h1 hr;have:=(Bu (by omega)).1 h2;omega
theorem n0q{e m:Nat}(he:e<=2045)(h1:2^52<=m)(h2:m<2^53):Ieee.double.read (e*2^52+m) = .number false m (-1074+(e:Int)):=by
 have hb:e*2^52+m<2^63:=by omega
 unfold Ieee.Format.read;simp only[u0e,f0o,p0k,c0f];have e1:(e*2^52+m) / 2^63=0:=Fb hb;have e2:(e*2^52+m)%2^63=e*2^52+m:=Bx9 hb;rw[e1,e2];have hi:e*2^52+m<infR:=by unfold infR; omega
 rw[if_neg (by omega),if_pos hi];have e3:(e*2^52+m)%2^52=m-2^52:=by omega
 have e4:(e*2^52+m) / 2^52=e+1:=by omega
 rw[e3,e4];have e5:2^52+(m-2^52)=m:=by omega
 rw[e5]; rfl
theorem o0q{x y r:Nat}{m n:Nat}{i j:Int}(hx:Ieee.double.read x = .number false m i)(hy:Ieee.double.read y = .number false n j)(hr:r<infR)(h0:m≠0)(h1:n≠0){a b:Nat}(hab:i+j+1074=(a:Int)-b)(h:m*n*2^a=rm r*2^b) :
 FloatKind.f64.format.mul x y=some r:=by
 show((Ieee.double.read x).product (Ieee.double.read y)).map Ieee.double.write=some r;rw[hx,hy];show some (Ieee.double.nearest false (m*n) (i+j))=some r;rw[x0d hr (Bz h0 h1) hab h]; rfl
theorem z0s{n:Nat}(h0:n≠0)(h:n<2^53):FloatKind.f64.nearest (n:Int)=(n.log2+1022)*2^52+n*2^(52-n.log2)/\2^52<=n*2^(52-n.log2)/\n*2^(52-n.log2)<2^53:=by
 obtain⟨r,hr,hd⟩:=H12 (k:=1074) h0 h;obtain⟨h1,h2,h3⟩:=hd (by omega);have h52:n.log2<=52:=by have:=(Nat.log2_lt h0 (k:=53)).2 h; omega
 refine⟨?_,h2,h3⟩;have e:n.log2+1074-52=n.log2+1022:=by omega
 rw[e]at h1;rw[<-h1];show Ieee.double.nearest (decide ((n:Int)<0)) (n:Int).natAbs 0=r;have e2:decide ((n:Int)<0)=false:=Ao (by omega);rw[e2,Bf,x0d (r:=r) (w14 hr (by omega) h0) h0 (a:=1074) (b:=0) (by omega) (by rw[hr,Eo,Ct])];rfl
theorem p0q{n:Nat}(h0:n≠0)(h:n<=2^53):∃e m,FloatKind.f64.nearest (n:Int)=e*2^52+m/\2^52<=m/\m<2^53/\m*2^e=n*2^1074/\1022<=e/\e<=1075:=by
 by_cases c:n<2^53
 . obtain⟨h1,h2,h3⟩:=z0s h0 c;have h52:n.log2<=52:=by have:=(Nat.log2_lt h0 (k:=53)).2 c; omega
   refine⟨_,_,h1,h2,h3,?_,by omega,by omega⟩;have e:52-n.log2+(n.log2+1022)=1074:=by omega
   rw[Bj,<-Av,e]
 have:n=2^53:=by omega
 subst this;have hr:rm (1075*2^52+2^52)=2^52*2^1075:=q14 (r:=1075*2^52+2^52) (e:=1075) rfl;have hi:1075*2^52+2^52<infR:=by unfold infR; omega
 have e3:2^52*2^1075=2^53*2^1074:=u14 (a:=1075) (b:=1074) rfl;have h5:2^53*2^1074=rm (1075*2^52+2^52):=e3.symm.trans hr.symm;refine⟨1075,2^52,?_,by omega,by omega,e3,by omega,by omega⟩;show Ieee.double.nearest (decide (((2^53:Nat):Int)<0)) ((2^53:Nat):Int).natAbs 0=_;have e2:decide (((2^53:Nat):Int)<0)=false:=Ao (by omega);rw[e2,Bf,D0l hi (by omega) (a:=1074) (by omega) h5];rfl
theorem W0i:FloatKind.f64.nearest 0=0:=by decide
structure Ops (α:Type) where
 sub:α->α->α
 mul:α->α->α
 div:α->α->α
 clr:α->Bool
section
variable {α:Type} (O:Ops α)
def n0c(A:Nat->Nat->α)(c:Nat):Nat->Nat->Nat
 | 0,p=>p
 | k+1,p=>if O.clr (A p c)=true then p else n0c A c k (p+1)
def pivF(A:Nat->Nat->α)(c n:Nat):Nat:=n0c O A c (n-c) c
def w0f(A:Nat->Nat->α)(c p:Nat):Nat->Nat->α:=λi k=>if i=c then A p k else if i=p then A c k else A i k
def colF(w:Nat)(A:Nat->Nat->α)(c R:Nat):Nat->Nat->α:=λi k =>
 if c<i/\i<R/\c<k/\k<w then O.sub (A i k) (O.mul (O.div (A i c) (A c c)) (A c k))else A i k
def rowF(A:Nat->Nat->α)(c R:Nat)(f:α)(K:Nat):Nat->Nat->α:=λi k =>
 if i=R/\c<k/\k<K then O.sub (A i k) (O.mul f (A c k))else A i k
def q0a(A:Nat->Nat->α)(c p:Nat):Nat->Nat->α:=if p=c then A else w0f A c p
def j08(n w:Nat):Nat->Nat->(Nat->Nat->α)->Nat->(Nat->Nat->α)×Nat×Option Nat
 | 0,_,A,s=>(A,s,none)
 | k+1,c,A,s =>
   if pivF O A c n=n then(A,s,some c)
   else j08 n w k (c+1) (colF O w (q0a A c (pivF O A c n)) c n) (if pivF O A c n=c then s else s+1)
def elim(n w:Nat)(A:Nat->Nat->α):(Nat->Nat->α)×Nat×Option Nat:=j08 O n w n 0 A 0
def E0l(A:Nat->Nat->α)(x:Nat->α)(c n:Nat):Nat->α
 | 0=>A c n
 | j+1=>O.sub (E0l A x c n j) (O.mul (A c (c+1+j)) (x (c+1+j)))
def w08(d:α)(A:Nat->Nat->α)(n:Nat):Nat->Nat->α
 | 0=>λ_=>d
 | j+1=>λi=>if i=n-(j+1)then O.div (E0l O A (w08 d A n j) (n-(j+1)) n j) (A (n-(j+1)) (n-(j+1)))else w08 d A n j i
theorem B0i(A:Nat->Nat->α)(c:Nat):∀k p,p<=n0c O A c k p/\n0c O A c k p<=p+k/\(∀q,p<=q->q<n0c O A c k p->O.clr (A q c)=false)/\(n0c O A c k p<p+k->O.clr (A (n0c O A c k p) c)=true)
 | 0,p=>⟨An9 _,An9 _,λq h1 h2=>by simp only[n0c]at h2; omega,λh=>by simp only[n0c]at h; omega⟩
 | k+1,p=>by
   simp only[n0c];split
   . rename_i h;exact⟨An9 _,by omega,λq h1 h2=>by omega,λ_=>h⟩
   rename_i h;obtain⟨h1,h2,h3,h4⟩:=B0i A c k (p+1);refine⟨by omega,by omega,λq g1 g2 => ?_,λg=>h4 (by omega)⟩;by_cases e:q=p
   . subst e; simpa using h
   exact h3 q (by omega) g2
theorem L0c(A:Nat->Nat->α){c n:Nat}(hc:c<=n):c<=pivF O A c n/\pivF O A c n<=n/\(∀q,c<=q->q<pivF O A c n->O.clr (A q c)=false)/\(pivF O A c n<n->O.clr (A (pivF O A c n) c)=true):=by
 obtain⟨h1,h2,h3,h4⟩:=B0i O A c (n-c) c;exact⟨h1,by unfold pivF; omega,h3,λh=>h4 (by unfold pivF at h; omega)⟩
theorem H0x(A:Nat->Nat->α){c n p:Nat}(hc:c<=p)(hp:p<=n)(h1:∀q,c<=q->q<p->O.clr (A q c)=false)(h2:p<n->O.clr (A p c)=true):pivF O A c n=p:=by
 obtain⟨g1,g2,g3,g4⟩:=L0c O A (c:=c) (n:=n) (by omega);rcases Nat.lt_trichotomy (pivF O A c n) p with h|h|h
 . have a:=h1 _ g1 h;have b:=g4 (by omega);rw[a]at b; simp at b
 . exact h
 have a:=g3 p hc h;have b:=h2 (by omega);rw[a]at b; simp at b
theorem I0v(w:Nat)(A:Nat->Nat->α)(c:Nat):colF O w A c (c+1)=A:=by
 funext i k; unfold colF; rw[if_neg (by omega)]
theorem J0v(A:Nat->Nat->α)(c R:Nat)(f:α):rowF O A c R f (c+1)=A:=by
 funext i k; unfold rowF; rw[if_neg (by omega)]
theorem z0t(w:Nat)(A:Nat->Nat->α)(c R k:Nat):colF O w A c R c k=A c k:=by unfold colF; rw[if_neg (by omega)]
theorem A0t(w:Nat)(A:Nat->Nat->α)(c R k:Nat):colF O w A c R R k=A R k:=by unfold colF; rw[if_neg (by omega)]
theorem z14(A:Nat->Nat->α)(c R:Nat)(h:R≠c)(f:α)(K k:Nat):rowF O A c R f K c k=A c k:=by unfold rowF; rw[if_neg (by omega)]
theorem A14(A:Nat->Nat->α)(c R:Nat)(f:α)(K:Nat):rowF O A c R f K R K=A R K:=by unfold rowF; rw[if_neg (by omega)]
theorem I0x(A:Nat->Nat->α){c R:Nat}(f:α){K:Nat}(hK:c<K) :
 (λi' k'=>if i'=R then(if k'=K then O.sub (A R K) (O.mul f (A c K))else rowF O A c R f K R k')else rowF O A c R f K i' k')=rowF O A c R f (K+1):=by
 funext i k;unfold rowF;by_cases e:i=R
 . subst e;by_cases e2:k=K
   . subst e2; simp[hK]
   simp only[Az,if_neg e2];by_cases h:c<k/\k<K
   . rw[if_pos ⟨trivial,h⟩,if_pos ⟨trivial,h.1,by omega⟩]
   rw[if_neg (by omega),if_neg (by omega)]
 simp[e]
theorem m10(w:Nat)(A:Nat->Nat->α){c R:Nat}(hR:c<R):rowF O (colF O w A c R) c R (O.div (A R c) (A c c)) w=colF O w A c (R+1):=by
 funext i k;unfold rowF;by_cases e:i=R
 . subst e;rw[A0t,z0t];by_cases h:c<k/\k<w
   . rw[if_pos ⟨rfl,h⟩]; unfold colF; rw[if_pos ⟨hR,by omega,h⟩]
   rw[if_neg (by omega)]; unfold colF; rw[if_neg (by omega)]
 rw[if_neg (by omega)];unfold colF;by_cases h:c<i/\i<R/\c<k/\k<w
 . rw[if_pos h,if_pos (by omega)]
 rw[if_neg h,if_neg (by omega)]
theorem K0v(n w:Nat){c:Nat}(hc:c<n)(A:Nat->Nat->α)(s:Nat)(h:pivF O A c n=n):j08 O n w (n-c) c A s=(A,s,some c):=by
 have e:n-c=(n-(c+1))+1:=by omega
 rw[e,j08,if_pos h]
theorem B0t(n w:Nat){c:Nat}(hc:c<n)(A:Nat->Nat->α)(s:Nat)(h:pivF O A c n≠n) :
 j08 O n w (n-c) c A s=j08 O n w (n-(c+1)) (c+1) (colF O w (q0a A c (pivF O A c n)) c n) (if pivF O A c n=c then s else s+1):=by
 have e:n-c=(n-(c+1))+1:=by omega
 rw[e,j08,if_neg h]
theorem J0x(n w:Nat)(A:Nat->Nat->α)(s:Nat):j08 O n w (n-n) n A s=(A,s,none):=by rw[Gs]; rfl
theorem s0k(A:Nat->Nat->α)(c p k:Nat):q0a A c p c k=A p k:=by
 unfold q0a; split
 . rename_i h; subst h; rfl
 simp[w0f]
theorem t0k(Q:Nat->α->Prop)(n w:Nat)(hQ:∀c x y z u,Q c x->Q c y->Q c z->Q c u->Q (c+1) (O.sub x (O.mul (O.div y z) u)))(hm:∀c x,Q c x->Q (c+1) x) :
 ∀(k c:Nat) (A:Nat->Nat->α) (s:Nat),k+c=n->n<=w->(∀i j,i<n->j<w->Q c (A i j))->∀i j,i<n->j<w->Q n ((j08 O n w k c A s).1 i j)
 | 0,c,A,s,hk,hw,h=>by
   have:c=n:=by omega
   subst this;exact h
 | k+1,c,A,s,hk,hw,h=>by
   have up:∀k c x,k+c=n->Q c x->Q n x:=by
    intro k
    induction k with
    | zero=>intro c x e hx; rw[Am]at e; subst e; exact hx
    | succ k ih=>intro c x e hx; exact ih (c+1) x (by omega) (hm c x hx)
   rw[j08];split
   . intro i j hi hj; exact up (k+1) c _ hk (h i j hi hj)
   refine t0k Q n w hQ hm k (c+1) _ _ (by omega) hw λi j hi hj => ?_;have hp:=(L0c O A (c:=c) (n:=n) (by omega)).2.1;have hA:∀i j,i<n->j<w->Q c (q0a A c (pivF O A c n) i j):=by
    intro i j hi hj;unfold q0a;split
    . exact h i j hi hj
    unfold w0f;split
    . exact h _ j (by omega) hj
    split
    . exact h _ j (by omega) hj
    exact h i j hi hj
   unfold colF;split
   . exact hQ c _ _ _ _ (hA i j hi hj) (hA i c hi (by omega)) (hA c c (by omega) (by omega)) (hA c j (by omega) hj)
   exact hm c _ (hA i j hi hj)
theorem L0h(n w:Nat):∀(k c:Nat) (A:Nat->Nat->α) (s:Nat),k+c=n->(∀i,i<c->O.clr (A i i)=true)->(j08 O n w k c A s).2.2=none->∀i,i<n->O.clr ((j08 O n w k c A s).1 i i)=true
 | 0,c,A,s,hk,h,_,i,hi=>h i (by omega)
 | k+1,c,A,s,hk,h,hn,i,hi=>by
   obtain⟨p1,p2,p3,p4⟩:=L0c O A (c:=c) (n:=n) (by omega);by_cases hp:pivF O A c n=n
   . rw[j08,if_pos hp]at hn; simp at hn
   rw[j08,if_neg hp]at hn ⊢;refine L0h n w k (c+1) _ _ (by omega) (λj hj => ?_) hn i hi;unfold colF;rw[if_neg (by omega)];by_cases e:j=c
   . subst e; rw[s0k]; exact p4 (by omega)
   unfold q0a;split
   . exact h j (by omega)
   unfold w0f; rw[if_neg e,if_neg (by omega)]; exact h j (by omega)
def K0x(A:Nat->Nat->α):Nat->α
 | 0=>A 0 0
 | j+1=>O.mul (K0x A j) (A (j+1) (j+1))
end
theorem Cq.add_assoc(x y z:Cq):x+y+z=x+(y+z):=by refine Cq.ext' ?_ ?_<;>simp only[P01,Q01]<;>grind
theorem Cq.zero_add(x:Cq):Cq.zero+x=x:=by refine Cq.ext' ?_ ?_<;>simp only[P01,Q01,Cq.zero]<;>grind
theorem Cq.add_zero(x:Cq):x+Cq.zero=x:=by refine Cq.ext' ?_ ?_<;>simp only[P01,Q01,Cq.zero]<;>grind
theorem Cq.mul_comm(x y:Cq):x*y=y*x:=by refine Cq.ext' ?_ ?_<;>simp only[F01,G01]<;>grind
theorem Cq.mul_zero(x:Cq):x*Cq.zero=Cq.zero:=by refine Cq.ext' ?_ ?_<;>simp only[F01,G01,Cq.zero]<;>grind
theorem Cq.zero_mul(x:Cq):Cq.zero*x=Cq.zero:=by rw[Cq.mul_comm,Cq.mul_zero]
theorem Cq.sub_zero(x:Cq):x-Cq.zero=x:=by refine Cq.ext' ?_ ?_<;>simp only[o02,u02,Cq.zero]<;>grind
theorem j0l{x:Cq}(h:x≠Cq.zero):0<x.norm:=by
 have h1:0<=x.re*x.re:=by
  rcases Rat.le_total (a:=0) (b:=x.re)with g|g
  . exact Gl g g
  have:=Gl (a := -x.re) (b := -x.re) (by grind) (by grind); grind
 have h2:0<=x.im*x.im:=by
  rcases Rat.le_total (a:=0) (b:=x.im)with g|g
  . exact Gl g g
  have:=Gl (a := -x.im) (b := -x.im) (by grind) (by grind); grind
 rcases Rat.le_iff_lt_or_eq.1 (show(0:Rat)<=x.norm by unfold Cq.norm; grind)with g|g
 . exact g
 exfalso;unfold Cq.norm at g;have e1:x.re*x.re=0:=by grind
 have e2:x.im*x.im=0:=by grind
 exact h (Cq.ext' (by rcases Gh.1 e1 with e|e<;>exact e) (by rcases Gh.1 e2 with e|e<;>exact e))
theorem k09{x y:Cq}(h:y≠Cq.zero):x.div y*y=x:=by
 have hn:=j0l h;have hn':y.norm≠0:=by grind
 have e:y.norm=y.re*y.re+y.im*y.im:=rfl;refine Cq.ext' ?_ ?_
 . show(x.re*y.re+x.im*y.im) / y.norm*y.re-(x.im*y.re-x.re*y.im) / y.norm*y.im=x.re;grind
 show(x.re*y.re+x.im*y.im) / y.norm*y.im+(x.im*y.re-x.re*y.im) / y.norm*y.re=x.im;grind
theorem B0b{x y z:Cq}(h:z≠Cq.zero)(e:x*z=y*z):x=y:=by
 have hn:=j0l h;have hn':z.norm≠0:=by grind
 have h1:=Ck Cq.re e; have h2:=Ck Cq.im e;simp only[F01,G01]at h1 h2;have g1:(x.re-y.re)*z.norm=0:=by unfold Cq.norm; grind
 have g2:(x.im-y.im)*z.norm=0:=by unfold Cq.norm; grind
 refine Cq.ext' ?_ ?_
 . rcases Gh.1 g1 with g|g
   . grind
   exact absurd g hn'
 rcases Gh.1 g2 with g|g
 . grind
 exact absurd g hn'
theorem p0r{x y z:Cq}(h:z≠Cq.zero):x=y.div z↔x*z=y:=by
 constructor
 . rintro rfl; exact k09 h
 intro e; exact B0b h (by rw[e,k09 h])
def sq(f:Nat->Cq)(a:Nat):Nat->Cq
 | 0=>Cq.zero
 | j+1=>sq f a j+f (a+j)
theorem U0g{f g:Nat->Cq}{a:Nat}:∀ {j:Nat},(∀k,a<=k->k<a+j->f k=g k)->sq f a j=sq g a j
 | 0,_=>rfl
 | j+1,h=>by rw[sq,sq,U0g (λk h1 h2=>h k h1 (by omega)),h _ (by omega) (by omega)]
theorem o0j(f:Nat->Cq)(a:Nat):∀j,sq f a (j+1)=f a+sq f (a+1) j
 | 0=>by simp only[sq]; rw[Cq.zero_add,Cq.add_zero,Dm]
 | j+1=>by
   rw[sq,o0j f a j,sq,Cq.add_assoc];have:a+1+j=a+(j+1):=by omega
   rw[this]
theorem S11(a b y:Nat->Cq)(f:Cq)(s:Nat):∀j,sq (λk=>(a k-f*b k)*y k) s j=sq (λk=>a k*y k) s j-f*sq (λk=>b k*y k) s j
 | 0=>by simp only[sq]; rw[Cq.mul_zero,Cq.sub_zero]
 | j+1=>by
   rw[sq,S11 a b y f s j,sq,sq];generalize sq (λk=>a k*y k) s j=A;generalize sq (λk=>b k*y k) s j=B;refine Cq.ext' ?_ ?_<;>simp only[P01,Q01,o02,u02,F01,G01]<;>grind
def numO:Ops Cq:=⟨λx y=>x-y,λx y=>x*y,Cq.div,λx=>decide (x≠Cq.zero)⟩
theorem p0j{x:Cq}:numO.clr x=true↔x≠Cq.zero:=by simp[numO]
theorem q0q{x:Cq}:numO.clr x=false↔x=Cq.zero:=by simp[numO]
structure w0e (n w c:Nat) (A B:Nat->Nat->Cq):Prop where
 sol:∀y:Nat->Cq,(∀i,i<n->sq (λk=>B i k*y k) (min c i) (w-min c i)=Cq.zero)↔(∀i,i<n->sq (λk=>A i k*y k) 0 w=Cq.zero)
 diag:∀i,i<c->B i i≠Cq.zero
theorem w0e.start(n w:Nat)(A:Nat->Nat->Cq):w0e n w 0 A A:=⟨λy=>by simp,λi h=>absurd h (by omega)⟩
theorem w0e.pivot{n w c p:Nat}{A B:Nat->Nat->Cq}(h:w0e n w c A B)(hc:c<=p)(hp:p<n):w0e n w c A (q0a B c p):=by
 unfold q0a;split
 . exact h
 refine⟨λy=>Iff.trans ?_ (h.sol y),λi hi => ?_⟩
 . constructor
   . intro g i hi;by_cases e1:i=c
     . subst e1;have:=g p hp;simp only[w0f,if_neg (show ¬p=i by omega),Az]at this;rw[Cj hc]at this;rw[Fk9]; exact this
     by_cases e2:i=p
     . subst e2;have:=g c (by omega);simp only[w0f,Az]at this;rw[Fk9]at this;rw[Cj hc]; exact this
     have:=g i hi;simp only[w0f,if_neg e1,if_neg e2]at this; exact this
   intro g i hi;by_cases e1:i=c
   . subst e1;simp only[w0f,Az];have:=g p hp;rw[Cj hc]at this;rw[Fk9]; exact this
   by_cases e2:i=p
   . subst e2;simp only[w0f,if_neg e1,Az];have:=g c (by omega);rw[Fk9]at this;rw[Cj hc]; exact this
   simp only[w0f,if_neg e1,if_neg e2]; exact g i hi
 simp only[w0f,if_neg (show ¬i=c by omega),if_neg (show ¬i=p by omega)];exact h.diag i hi
theorem w0e.col{n w c:Nat}{A B:Nat->Nat->Cq}(h:w0e n w c A B)(hc:c<n)(hw:n<=w)(h0:B c c≠Cq.zero):w0e n w (c+1) A (colF numO w B c n):=by
 have low:∀i,i<=c->∀k,colF numO w B c n i k=B i k:=λi hi k=>by unfold colF; rw[if_neg (by omega)]
 have high:∀i,c<i->i<n->∀k,c<k->k<w->colF numO w B c n i k=B i k-(B i c).div (B c c)*B c k:=λi hi hin k hk hkw=>by
  unfold colF; rw[if_pos ⟨hi,hin,hk,hkw⟩]; rfl
 have key:∀(y:Nat->Cq) i,c<i->i<n->sq (λk=>colF numO w B c n i k*y k) (c+1) (w-(c+1)) =
  sq (λk=>B i k*y k) c (w-c)-(B i c).div (B c c)*sq (λk=>B c k*y k) c (w-c):=by
  intro y i hi hin;have e:w-c=(w-(c+1))+1:=by omega
  rw[U0g (g:=λk=>(B i k-(B i c).div (B c c)*B c k)*y k) (λk h1 h2=>by rw[high i hi hin k (by omega) (by omega)]),S11,e,o0j,o0j];have hd:=k09 (x:=B i c) h0;generalize sq (λk=>B i k*y k) (c+1) (w-(c+1))=X;generalize sq (λk=>B c k*y k) (c+1) (w-(c+1))=Y;generalize (B i c).div (B c c)=f at *;rw[<-hd];refine Cq.ext' ?_ ?_<;>simp only[P01,Q01,o02,u02,F01,G01]<;>grind
 refine⟨λy=>Iff.trans ?_ (h.sol y),λi hi => ?_⟩
 . have lowS:∀i,i<=c->sq (λk=>colF numO w B c n i k*y k) (min (c+1) i) (w-min (c+1) i)=sq (λk=>B i k*y k) (min c i) (w-min c i):=by
     intro i hi;rw[Fz (by omega),Fz hi];exact U0g λk _ _=>by rw[low i hi]
   constructor
   . intro g;have gc:=g c hc;rw[lowS c (An9 _),Fk9]at gc;intro i hi;rcases Ad c i with hci|hci
     . have:=g i hi;rw[Cj (by omega),key y i hci hi,gc,Cq.mul_zero,Cq.sub_zero]at this;rw[Cj (by omega)]; exact this
     rw[<-lowS i hci]; exact g i hi
   intro g;have gc:=g c hc;rw[Fk9]at gc;intro i hi;rcases Ad c i with hci|hci
   . have:=g i hi;rw[Cj (by omega)]at this;rw[Cj (by omega),key y i hci hi,gc,this,Cq.mul_zero,Cq.sub_zero]
   rw[lowS i hci]; exact g i hi
 rw[low i (by omega)];rcases Ad i c with g|g
 . exact h.diag i g
 have:i=c:=by omega
 subst this; exact h0
theorem w0e.step{n w c p:Nat}{A B:Nat->Nat->Cq}(h:w0e n w c A B)(hc:c<=p)(hp:p<n)(hw:n<=w)(h0:B p c≠Cq.zero):w0e n w (c+1) A (colF numO w (q0a B c p) c n) :=
 (h.pivot hc hp).col (by omega) hw (by rw[s0k]; exact h0)
def Sys(n:Nat)(A:Nat->Nat->Cq)(x:Nat->Cq):Prop:=∀i,i<n->sq (λk=>A i k*x k) 0 n=A i n
theorem C0t(B:Nat->Nat->Cq)(x:Nat->Cq)(c n:Nat):∀j,E0l numO B x c n j=B c n-sq (λk=>B c k*x k) (c+1) j
 | 0=>by simp only[E0l,sq]; rw[Cq.sub_zero]
 | j+1=>by
   rw[E0l,C0t B x c n j,sq];show B c n-_-B c (c+1+j)*x (c+1+j)=_;generalize sq (λk=>B c k*x k) (c+1) j=S;refine Cq.ext' ?_ ?_<;>simp only[P01,Q01,o02,u02]<;>grind
theorem u0k{n:Nat}(d:Cq)(B:Nat->Nat->Cq)(x:Nat->Cq):∀j,j<=n->(∀i,n-j<=i->i<n->B i i≠Cq.zero) ->
 ((∀i,n-j<=i->i<n->sq (λk=>B i k*x k) i (n-i)=B i n)↔(∀i,n-j<=i->i<n->x i=w08 numO d B n j i))
 | 0,_,_=>⟨λ_ i h1 h2=>by omega,λ_ i h1 h2=>by omega⟩
 | j+1,hj,hd=>by
   have ih:=u0k d B x j (by omega) (λi h1 h2=>hd i (by omega) h2);have hc:n-(j+1)<n:=by omega
   have hne:=hd (n-(j+1)) (An9 _) hc;have e1:n-(n-(j+1))=j+1:=by omega
   have e2:n-(j+1)+1=n-j:=by omega
   have row:(∀i,n-j<=i->i<n->x i=w08 numO d B n j i)->(sq (λk=>B (n-(j+1)) k*x k) (n-(j+1)) (n-(n-(j+1)))=B (n-(j+1)) n ↔
    x (n-(j+1))=numO.div (E0l numO B (w08 numO d B n j) (n-(j+1)) n j) (B (n-(j+1)) (n-(j+1)))):=by
    intro hx;rw[e1,o0j];have e3:E0l numO B (w08 numO d B n j) (n-(j+1)) n j=B (n-(j+1)) n-sq (λk=>B (n-(j+1)) k*x k) (n-(j+1)+1) j:=by
     rw[C0t];congr 1;exact U0g λk h1 h2=>by rw[hx k (by omega) (by omega)]
    show _↔x _=Cq.div _ _;rw[e3,p0r hne];generalize sq (λk=>B (n-(j+1)) k*x k) (n-(j+1)+1) j=S;generalize B (n-(j+1)) (n-(j+1))=b;generalize B (n-(j+1)) n=r;generalize x (n-(j+1))=y;constructor
    . intro h; rw[<-h];refine Cq.ext' ?_ ?_<;>simp only[P01,Q01,o02,u02,F01,G01]<;>grind
    intro h;rw[Cq.mul_comm b y,h];refine Cq.ext' ?_ ?_<;>simp only[P01,Q01,o02,u02]<;>grind
   constructor
   . intro g i h1 h2;have gx:=ih.1 (λi h1 h2=>g i (by omega) h2);simp only[w08];by_cases e:i=n-(j+1)
     . rw[if_pos e]; subst e;exact(row gx).1 (g _ (An9 _) h2)
     rw[if_neg e]; exact gx i (by omega) h2
   intro g i h1 h2;have gx:∀i,n-j<=i->i<n->x i=w08 numO d B n j i:=by
    intro i h1 h2;have:=g i (by omega) h2;simp only[w08]at this;rw[if_neg (by omega)]at this; exact this
   by_cases e:i=n-(j+1)
   . subst e;refine(row gx).2 ?_;have:=g _ (An9 _) h2;simp only[w08,Az]at this; exact this
   exact ih.2 gx i (by omega) h2
theorem l0o{A:Nat->Cq}{x:Nat->Cq}{a n:Nat}(h:a<=n):sq (λk=>A k*(if k<n then x k else -Cq.one)) a (n+1-a)=Cq.zero↔sq (λk=>A k*x k) a (n-a)=A n:=by
 have e:n+1-a=(n-a)+1:=by omega
 have e2:a+(n-a)=n:=by omega
 rw[e,sq,e2,U0g (g:=λk=>A k*x k) (λk h1 h2=>by rw[if_pos (by omega)])];rw[if_neg (Fs9 _)];generalize sq (λk=>A k*x k) a (n-a)=S;generalize A n=r;constructor
 . intro h;have h1:=Ck Cq.re h; have h2:=Ck Cq.im h;simp only[P01,Q01,F01,G01,G07,H07,Cq.one,Cq.zero]at h1 h2;exact Cq.ext' (by grind) (by grind)
 rintro rfl;refine Cq.ext' ?_ ?_<;>simp only[P01,Q01,F01,G01,G07,H07,Cq.one,Cq.zero]<;>grind
theorem w0e.unique{n:Nat}{A B:Nat->Nat->Cq}(h:w0e n (n+1) n A B)(d:Cq)(x:Nat->Cq):Sys n A x↔∀i,i<n->x i=w08 numO d B n n i:=by
 have hs:=h.sol (λk=>if k<n then x k else -Cq.one)
 have e1:Sys n A x↔∀i,i<n->sq (λk=>A i k*(if k<n then x k else -Cq.one)) 0 (n+1)=Cq.zero:=by
  constructor
  . intro g i hi;exact(l0o (A:=A i) (x:=x) (Ev n)).2 (g i hi)
  intro g i hi;exact(l0o (A:=A i) (x:=x) (Ev n)).1 (g i hi)
 rw[e1,<-hs];have hb:=u0k d B x n (An9 n) (λi _ hi=>h.diag i hi);rw[Gs]at hb;constructor
 . intro g i hi;refine hb.1 (λi _ hi => ?_) i (Ev _) hi;have:=g i hi;rw[Fz (by omega)]at this;exact(l0o (A:=B i) (x:=x) (by omega)).1 this
 intro g i hi;rw[Fz (by omega)];exact(l0o (A:=B i) (x:=x) (by omega)).2 (hb.2 (λi _ hi=>g i hi) i (Ev _) hi)
theorem D0m(n w:Nat)(A:Nat->Nat->Cq)(hw:n<=w):∀(k c:Nat) (B:Nat->Nat->Cq) (s:Nat),k+c=n->w0e n w c A B ->
 (match (j08 numO n w k c B s).2.2 with
 | none=>w0e n w n A (j08 numO n w k c B s).1
 | some c'=>c'<n/\w0e n w c' A (j08 numO n w k c B s).1/\∀i,c'<=i->i<n->(j08 numO n w k c B s).1 i c'=Cq.zero)
 | 0,c,B,s,hk,h=>by
   have:c=n:=by omega
   subst this; exact h
 | k+1,c,B,s,hk,h=>by
   obtain⟨p1,p2,p3,p4⟩:=L0c numO B (c:=c) (n:=n) (by omega);rw[j08];by_cases hp:pivF numO B c n=n
   . rw[if_pos hp];exact⟨by omega,h,λi h1 h2=>q0q.1 (p3 i h1 (by omega))⟩
   rw[if_neg hp];exact D0m n w A hw k (c+1) _ _ (by omega) (h.step p1 (by omega) hw (p0j.1 (p4 (by omega))))
theorem A0s{n:Nat}{A:Nat->Nat->Cq}(h:(elim numO n (n+1) A).2.2=none)(d:Cq)(x:Nat->Cq) :
 Sys n A x↔∀i,i<n->x i=w08 numO d (elim numO n (n+1) A).1 n n i:=by
 have:=D0m n (n+1) A (by omega) n 0 A 0 (by omega) (w0e.start n (n+1) A);unfold elim at h ⊢;rw[h]at this;exact this.unique d x
def k08(m V:View):View:=λb=>match m b with|some cs=>some cs|none=>V b
theorem I07{m V:View}{b:Nat}{cs:Array Value}(h:m b=some cs):k08 m V b=some cs:=by unfold k08; rw[h]
theorem N0a{m V:View}{b:Nat}(h:m b=none):k08 m V b=V b:=by unfold k08; rw[h]
theorem L0e{m V:View}{b:Nat}{cs:Array Value}(h:k08 m V b=some cs):m b=some cs\/(m b=none/\V b=some cs):=by
 unfold k08 at h;cases e:m b with
 | some c=>rw[e]at h; exact .inl h
 | none=>rw[e]at h; exact .inr ⟨rfl,h⟩
def View.apart(m V:View):Prop:=∀b cs,m b=some cs->V b=none
theorem W0a{m V:View}(h:m.apart V):V.le (k08 m V):=λb cs e=>by
 cases hm:m b with
 | none=>rw[N0a hm]; exact e
 | some c=>rw[h b c hm]at e; simp at e
theorem j0n{m V:View}{w:World}(hV:V.In w)(hm:m.Lies V w):(k08 m V).In w:=λb cs e=>by
 rcases L0e e with h|⟨_,h⟩
 . obtain⟨⟨T,hT⟩,_⟩:=hm b cs h; exact⟨T,_,hT⟩
 exact hV b cs h
theorem View.Lies.apart{m V:View}{w:World}(h:m.Lies V w):m.apart V:=λb cs e=>(h b cs e).2
theorem B0s{m V:View}{w:World}(h:m.Lies V w){b:Nat}{cs:Array Value}(e:m b=some cs):b<w.heap.size:=by
 obtain⟨⟨T,hT⟩,_⟩:=h b cs e;rcases Ad b w.heap.size with g|g
 . exact g
 rw[Au g]at hT; simp at hT
section
variable {P:Program} {f:FuncId} {args:Array Value} {m V:View}
theorem d0t{R:Value->View->Prop}{K:Value->View->View->Prop}(h:a00 P f args (k08 m V) R)
 (hk:∀v V2 V3,V.le V3->V2=k08 m V3->m.apart V3->R v V2->K v m V3):f03 P f args m V K:=by
 intro w hw hm;refine(h w (j0n hw hm)).mono λe w' ⟨v,V2,he,hle,hin,hf,hb,hr⟩ => ?_;let V3:View:=λb=>match m b with|some _=>none|none=>V2 b
 have e3:∀b,m b=none->V3 b=V2 b:=λb h=>by show(match m b with|some _=>none|none=>V2 b)=_; rw[h]
 have e3':∀b cs,m b=some cs->V3 b=none:=λb cs h=>by show(match m b with|some _=>none|none=>V2 b)=_; rw[h]
 have hV2:V2=k08 m V3:=funext λb=>by
  cases hmb:m b with
  | none=>rw[N0a hmb,e3 b hmb]
  | some cs=>rw[I07 hmb,hle b cs (I07 hmb)]
 have hle3:V.le V3:=λb cs g=>by
  cases hmb:m b with
  | none=>rw[e3 b hmb]; exact hle b cs (by rw[N0a hmb]; exact g)
  | some c=>rw[(hm b c hmb).2]at g; simp at g
 refine⟨v,m,V3,he,hle3,λb cs g => ?_,λb cs g => ?_,.of_below hb,λb cs g=>⟨?_,e3' b cs g⟩,λb hb' => .inl hb',hk v V2 V3 hle3 hV2 (λb cs g=>e3' b cs g) hr⟩
 . cases hmb:m b with
   | none=>rw[e3 b hmb]at g; exact hin b cs g
   | some c=>rw[e3' b c hmb]at g; simp at g
 . cases hmb:m b with
   | none =>
     rw[e3 b hmb]at g;rcases hf b cs g with k|k
     . rw[N0a hmb]at k; exact .inl k
     exact .inr k
   | some c=>rw[e3' b c hmb]at g; simp at g
 obtain⟨⟨T,hT⟩,_⟩:=hm b cs g;exact⟨T,by rw[hb.block b (B0s hm g)]; exact hT⟩
theorem l09{R:Value->View->Prop}{K:Value->View->View->Prop}(h:a00 P f args V R)
 (hk:∀v V3,V.le V3->m.apart V3->R v V3->K v m V3):f03 P f args m V K:=by
 intro w hw hm;refine(h w hw).mono λe w' ⟨v,V3,he,hle,hin,hf,hb,hr⟩ => ?_;have ap:m.apart V3:=λb cs g=>by
  cases hv:V3 b with
  | none=>rfl
  | some c =>
    rcases hf b c hv with k|k
    . rw[(hm b cs g).2]at k; simp at k
    have:=B0s hm g; omega
 refine⟨v,m,V3,he,hle,hin,hf,.of_below hb,λb cs g=>⟨?_,ap b cs g⟩,λb hb' => .inl hb',hk v V3 hle ap hr⟩;obtain⟨⟨T,hT⟩,_⟩:=hm b cs g;exact⟨T,by rw[hb.block b (B0s hm g)]; exact hT⟩
theorem f03.known{R:Value->View->View->Prop}{K:Value->View->Prop}(h:f03 P f args (λ_=>none) V R)
 (hk:∀v m V' V2,V.le V'->V2=k08 m V'->m.apart V'->R v m V'->K v V2):a00 P f args V K:=by
 intro w hw;refine(h w hw (λb cs e=>by simp at e)).mono λe w' ⟨v,m',V',he,hle,hin,hf,hb,hm',hnew,hr⟩ => ?_;refine⟨v,k08 m' V',he,Gx hle (W0a hm'.apart),j0n hin hm',λb cs g => ?_,?_,hk v m' V' _ hle rfl hm'.apart hr⟩
 . rcases L0e g with g|⟨_,g⟩
   . rcases hnew b (by rw[g]; simp)with k|k
     . exact absurd rfl k
     exact .inr k
   exact hf b cs g
 have hd:View.dom (λ_=>none) w.heap.size=[]:=by simp[View.dom]
 rw[hd]at hb;exact hb.below
end
def View.del(m:View)(b0:Nat):View:=λb=>if b=b0 then none else m b
theorem k0l{m:View}{b0 b:Nat}(h:b≠b0):m.del b0 b=m b:=if_neg h
theorem O0a{m:View}{b0 b:Nat}{cs:Array Value}(h:m.del b0 b=some cs):b≠b0/\m b=some cs:=by
 unfold View.del at h;split at h
 . simp at h
 exact⟨by assumption,h⟩
theorem M0l{m m':View}{b0:Nat}(h:∀b,b≠b0->m' b=m b):m'.del b0=m.del b0:=funext λb=>by
 unfold View.del;split
 . rfl
 exact h b (by assumption)
theorem N0i{m:View}{b0 b:Nat}{X:Array Value}(h:b≠b0):(I00 m b X).del b0=I00 (m.del b0) b X:=funext λi=>by
 unfold View.del I00;by_cases c:i=b0
 . have:¬i=b:=λe=>h (e.symm.trans c)
   simp only[if_pos c,if_neg this]
 simp only[if_neg c]
section
variable {α:Type} {sz:Nat} {P:View->List Value->α->Prop}
theorem RowR.undel{m V:View}{b0 b:Nat}{s:Sl}{row:List α}(h:RowR sz P (m.del b0) V s b row):RowR sz P m V s b row:=by
 refine h.agree λhn => ?_;obtain⟨_,o,o',g,_⟩:=h.blk hn;rw[g,(O0a g).2]
theorem x04.undel{m V:View}{b0 t:Nat}{o:List Value}{rows:Nat->List α}(h:x04 sz P (m.del b0) V o t rows):x04 sz P m V o t rows:=by
 obtain⟨S,bs,h1,h2⟩:=h;exact⟨S,bs,λi hi=>⟨(h1 i hi).1,(h1 i hi).2.undel⟩,h2⟩
theorem x04.redel{m m' V:View}{b0 t:Nat}{o:List Value}{rows:Nat->List α}(h:x04 sz P (m.del b0) V o t rows)(hm:∀b,b≠b0->m' b=m b):x04 sz P (m'.del b0) V o t rows:=by
 rw[M0l hm]; exact h
theorem AppR.del{m V:View}{b0 n c k:Nat}{a ra:Option Addr}{xs vs:List Value}{rc:Nat}{m':View}(h:AppR m V a n c k sz xs vs ra rc m')(hk:k≠0)(h0:m b0≠none)
 (hb:n+k<=c->∃(b off:Nat) (cs:List Value),a=some ⟨b,off,none⟩/\m.del b0 b=some cs.toArray/\off+(n+k)*sz<=cs.length) :
 AppR (m.del b0) V a n c k sz xs vs ra rc (m'.del b0)/\m' b0=m b0:=by
 rcases h with h|⟨h1,h2,h3,h4,b,off,cs,h5,h6,h7,rfl⟩|⟨h1,h2,b,l,h3,h4,h5,h6,rfl⟩
 . exact absurd h.1 hk
 . obtain⟨b',off',cs',g1,g2,_⟩:=hb h2;have hne:b≠b0:=by
    rw[h5]at g1;have e:b=b':=by cases g1; rfl
    rw[e]; exact(O0a g2).1
   refine⟨.inr (.inl ⟨h1,h2,h3,h4,b,off,cs,h5,by rw[k0l hne]; exact h6,h7,N0i hne⟩),?_⟩;unfold I00; rw[if_neg (λe=>hne e.symm)]
 have hne:b≠b0:=λe=>h0 (by rw[<-e]; exact h3)
 refine⟨.inr (.inr ⟨h1,h2,b,l,by rw[k0l hne]; exact h3,h4,h5,h6,N0i hne⟩),?_⟩;unfold I00; rw[if_neg (λe=>hne e.symm)]
theorem x04.appX{m V:View}{b0 t:Nat}{o:List Value}{rows:Nat->List α}(h:x04 sz P (m.del b0) V o t rows)(h0:m b0≠none){i:Nat}(hi:i<t){s:Sl}(hs:o[i]?=some s.v){x:List Value}{z:α}(hx:x.length=sz)(q:P V x z){o':List Value}
 (hC:f01 sz P V o' (rows i)) {ra:Option Addr} {rc:Nat} {m':View} (ha:AppR m V s.a s.len s.cap 1 sz o' x ra rc m') :
 x04 sz P (m'.del b0) V (o.set i (Value.slice ra (s.len+1) rc)) t (λj=>if j=i then rows i++[z]else rows j)/\m' b0=m b0:=by
 obtain⟨s',e,_,_,_,_,g⟩:=h.row hi;have es:=q0h (Option.some.inj (hs.symm.trans e));obtain⟨k1,k2⟩:=ha.del (b0:=b0) (by decide) h0 λhc=>by rw[es]at hc ⊢; exact g 1 (by decide) hc
 exact⟨h.app hi hs hx q hC k1,k2⟩
theorem e0t(m V:View)(w:Nat):x04 sz P m V (List.replicate w (Value.slice none 0 0)) w (λ_=>([]:List α)) :=
 ⟨λ_=>⟨none,0,0⟩,λ_=>0,λi hi=>⟨by simp[hi]; rfl,rfl,An9 _,λ_=>rfl,λh=>absurd rfl h⟩,λi j _ _ h=>absurd rfl h⟩
end
def one4:List Cq:=[⟨1,0⟩,⟨0,-1⟩,⟨-1,0⟩,⟨0,1⟩]
def I12:List Cq:=[⟨1,0⟩,⟨0,1⟩,⟨-1,0⟩,⟨0,-1⟩]
def one2:List Cq:=[⟨1,0⟩,⟨-1,0⟩]
def one1:List Cq:=[⟨1,0⟩]
theorem neg0:(-(0:Rat))=0:=by grind
theorem J12:(-(-1:Rat))=1:=by grind
theorem B14:M07 one4=I12:=by
 have e:M07 one4=[⟨1,-0⟩,⟨0,- -1⟩,⟨-1,-0⟩,⟨0,-1⟩]:=rfl;rw[e,neg0,J12]; rfl
theorem C14:M07 one2=one2:=by
 have e:M07 one2=[⟨1,-0⟩,⟨-1,-0⟩]:=rfl;rw[e,neg0]; rfl
theorem D14:M07 one1=one1:=by
 have e:M07 one1=[⟨1,-0⟩]:=rfl;rw[e,neg0]; rfl
theorem D0t(a b c d w0 w1 w2 w3:Cq):q02 2 [a,b,c,d] [w0,w1,w2,w3] =
 [(a+c*w0)+(b+d*w0)*w0,(a-c*w0)+(b-d*w0)*w1,(a+c*w0)-(b+d*w0)*w0,(a-c*w0)-(b-d*w0)*w1]:=by simp[q02,d02,nth,Cz]
theorem E0t(a b w0 w1:Cq):q02 1 [a,b] [w0,w1]=[a+b*w0,a-b*w0]:=by simp[q02,d02,nth,Cz]
theorem F0t(a w0:Cq):q02 0 [a] [w0]=[a]:=rfl
theorem L0x(a b c d:Cq):U06 [a,b,c,d]=[a*K0b 4,b*K0b 4,c*K0b 4,d*K0b 4]:=rfl
theorem M0x(a b:Cq):U06 [a,b]=[a*K0b 2,b*K0b 2]:=rfl
theorem N0x(a:Cq):U06 [a]=[a*K0b 1]:=rfl
theorem E14:(K0b 4).re=1 / 4/\(K0b 4).im=0:=by decide +kernel
theorem F14:(K0b 2).re=1 / 2/\(K0b 2).im=0:=by decide +kernel
theorem G14:(K0b 1).re=1/\(K0b 1).im=0:=by decide +kernel
theorem H14{a b c d a' b' c' d':Cq}(h1:a=a')(h2:b=b')(h3:c=c')(h4:d=d'):[a,b,c,d]=[a',b',c',d']:=by rw[h1,h2,h3,h4]
theorem I14{a b a' b':Cq}(h1:a=a')(h2:b=b'):[a,b]=[a',b']:=by rw[h1,h2]
theorem J14{a a':Cq}(h1:a=a'):[a]=[a']:=by rw[h1]
theorem O0x{zs:List Cq}(h:zs.length=4):∃a b c d,zs=[a,b,c,d]:=by
 match zs,h with
 | [a,b,c,d],_=>exact⟨a,b,c,d,rfl⟩
theorem T11{zs:List Cq}(h:zs.length=2):∃a b,zs=[a,b]:=by
 match zs,h with
 | [a,b],_=>exact⟨a,b,rfl⟩
theorem U11{zs:List Cq}(h:zs.length=1):∃a,zs=[a]:=by
 match zs,h with
 | [a],_=>exact⟨a,rfl⟩
def k03(m:Nat):List Cq:=if m=0 then one1 else if m=1 then one2 else one4
theorem n10{m:Nat}(hm:m<=2){zs:List Cq}(h:zs.length=2^m):U06 (q02 m (q02 m zs (k03 m)) (M07 (k03 m)))=zs:=by
 have hm:m=0\/m=1\/m=2:=by omega
 obtain⟨q1,q2⟩:=E14;obtain⟨q3,q4⟩:=F14;obtain⟨q5,q6⟩:=G14;rcases hm with rfl|rfl|rfl
 . obtain⟨a,rfl⟩:=U11 h;show U06 (q02 0 (q02 0 [a] one1) (M07 one1))=[a];rw[D14]; unfold one1; rw[F0t,F0t,N0x];refine J14 (Cq.ext' ?_ ?_)<;>simp only[F01,G01,q5,q6]<;>grind
 . obtain⟨a,b,rfl⟩:=T11 h;show U06 (q02 1 (q02 1 [a,b] one2) (M07 one2))=[a,b];rw[C14]; unfold one2; rw[E0t,E0t,M0x];refine I14 (Cq.ext' ?_ ?_) (Cq.ext' ?_ ?_)<;>simp only[F01,G01,P01,Q01,o02,u02,q3,q4]<;>grind
 obtain⟨a,b,c,d,rfl⟩:=O0x h;show U06 (q02 2 (q02 2 [a,b,c,d] one4) (M07 one4))=[a,b,c,d];rw[B14]; unfold one4 I12; rw[D0t,D0t,L0x];refine H14 (Cq.ext' ?_ ?_) (Cq.ext' ?_ ?_) (Cq.ext' ?_ ?_) (Cq.ext' ?_ ?_)<;>simp only[F01,G01,P01,Q01,o02,u02,q1,q2]<;>grind
theorem q10{m:Nat}(hm:m<=2){zs:List Cq}(h:zs.length=2^m):q02 m (U06 (q02 m zs (M07 (k03 m)))) (k03 m)=zs:=by
 have hm:m=0\/m=1\/m=2:=by omega
 obtain⟨q1,q2⟩:=E14;obtain⟨q3,q4⟩:=F14;obtain⟨q5,q6⟩:=G14;rcases hm with rfl|rfl|rfl
 . obtain⟨a,rfl⟩:=U11 h;show q02 0 (U06 (q02 0 [a] (M07 one1))) one1=[a];rw[D14]; unfold one1; rw[F0t,N0x,F0t];refine J14 (Cq.ext' ?_ ?_)<;>simp only[F01,G01,q5,q6]<;>grind
 . obtain⟨a,b,rfl⟩:=T11 h;show q02 1 (U06 (q02 1 [a,b] (M07 one2))) one2=[a,b];rw[C14]; unfold one2; rw[E0t,M0x,E0t];refine I14 (Cq.ext' ?_ ?_) (Cq.ext' ?_ ?_)<;>simp only[F01,G01,P01,Q01,o02,u02,q3,q4]<;>grind
 obtain⟨a,b,c,d,rfl⟩:=O0x h;show q02 2 (U06 (q02 2 [a,b,c,d] (M07 one4))) one4=[a,b,c,d];rw[B14]; unfold one4 I12; rw[D0t,L0x,D0t];refine H14 (Cq.ext' ?_ ?_) (Cq.ext' ?_ ?_) (Cq.ext' ?_ ?_) (Cq.ext' ?_ ?_)<;>simp only[F01,G01,P01,Q01,o02,u02,q1,q2]<;>grind
structure P07 (r n d:Nat):Prop where
 lt:r<infR
 le:rm r*d<=n*2^1074
 next:r+1=infR\/n*2^1074<rm (r+1)*d
structure IsUp (r n d:Nat):Prop where
 le:r<=infR
 ge:r=infR\/n*2^1074<=rm r*d
 prev:r=0\/rm (r-1)*d<n*2^1074
theorem P07.unique{r s n d:Nat}(_:0<d)(h:P07 r n d)(k:P07 s n d):r=s:=by
 have key:∀ {a b},P07 a n d->P07 b n d->¬a<b:=by
  intro a b ha hb c;rcases ha.next with e|e
  . have:=hb.lt; omega
  have h1:rm (a+1)<=rm b:=t0e.2 (by omega);have h2:=Ag d h1;have:=hb.le; omega
 have:=key h k;have:=key k h;omega
theorem IsUp.unique{r s n d:Nat}(_:0<d)(h:IsUp r n d)(k:IsUp s n d):r=s:=by
 have key:∀ {a b},IsUp a n d->IsUp b n d->¬a<b:=by
  intro a b ha hb c;rcases ha.ge with e|e
  . have:=hb.le; omega
  rcases hb.prev with e2|e2
  . omega
  have h1:rm a<=rm (b-1):=t0e.2 (by omega);have h2:=Ag d h1;omega
 have:=key h k;have:=key k h;omega
def Mag(n d:Nat)(e:Int):Prop:=∃A B:Nat,e=(B:Int)-A/\d*2^B<=n*2^A/\n*2^A<d*2^(B+1)
theorem x0e(k:Nat):0<2^k:=Bi (by omega)
theorem m0o{d i j:Nat}(_:0<d)(h:d*2^i<d*2^j):i<j:=(Bu (by omega)).1 (Nat.lt_of_mul_lt_mul_left h)
theorem k0n{n d x y A B:Nat}(h1:2^(x-1)<=n)(h2:n<2^x)(h3:2^(y-1)<=d)(h4:d<2^y)(hx:1<=x)(hy:1<=y)(hA:x+A=y+B) :
 (n*2^A<d*2^B->Mag n d ((B:Int)-A-1))/\(d*2^B<=n*2^A->Mag n d ((B:Int)-A)):=by
 constructor
 . intro h;refine⟨A+1,B,by omega,?_,?_⟩
   . have a1:d*2^B<=2^y*2^B:=Ag _ (by omega);have a2:2^(x-1)*2^(A+1)<=n*2^(A+1):=Ag _ h1;rw[<-Av]at a1 a2;have e:x-1+(A+1)=y+B:=by omega
     rw[e]at a2; omega
   rw[Ba,Ba,<-Bj,<-Bj]; omega
 intro h;refine⟨A,B,rfl,h,?_⟩;have a1:n*2^A<2^x*2^A:=Bh h2 (x0e A);have a2:2^(y-1)*2^(B+1)<=d*2^(B+1):=Ag _ h3;rw[<-Av]at a1 a2;have e:y-1+(B+1)=x+A:=by omega
 rw[e]at a2; omega
theorem u10(x y d:Nat):x*y*d=d*x*y:=by ac_rfl
theorem w10{R d x y n:Nat}(h:R=x*y)(a:d*x<=n):R*d<=n*y:=by
 rw[h,u10]; exact Ag y a
theorem L0v{a b c:Nat}(h:a=b+c):2^a=2^b*2^c:=by rw[h,Av]
theorem Mag.over{n d:Nat}{e:Int}(h:Mag n d e)(he:1024<=e):rm infR*d<=n*2^1074:=by
 obtain⟨A,B,rfl,h1,_⟩:=h;obtain⟨k,rfl⟩:∃k,B=A+1024+k:=⟨B-(A+1024),by omega⟩;have a:d*2^1024<=n:=by
  refine Df ?_ (x0e A);refine Ah ?_ h1;rw[Bj,<-Av 2 1024 A];exact Cv _ (Ar (by omega) (by omega))
 obtain⟨g,hg⟩:∃g,g=2046:=⟨_,rfl⟩;have hp:2^(52+g)=2^1024*2^1074:=L0v (a:=52+g) (b:=1024) (c:=1074) (by omega);exact w10 ((k0o hg).trans hp) a
theorem M0h{n d:Nat}{e last:Int}(hd:0<d)(h:Mag n d e)(he:e<=1023)(hl:last=max (e-52) (-1074)){a b q t:Nat}(ha:(a:Int)=max (-last) 0)(hb:(b:Int)=max last 0)(hq:q=n*2^a / (d*2^b))(ht:(t:Int)=last+1074) :
 q<2^53/\(t=0\/2^52<=q)/\t<=2045/\rm (t*2^52+q)=q*2^t/\P07 (t*2^52+q) n d /\
  (n*2^a%(d*2^b)=0->IsUp (t*2^52+q) n d)/\(n*2^a%(d*2^b)≠0->IsUp (t*2^52+q+1) n d)/\rm (t*2^52+q+1)=(q+1)*2^t:=by
 have hub:0<d*2^b:=Nat.mul_pos hd (x0e b);have f1:q*(d*2^b)<=n*2^a:=by rw[hq]; exact Fh _ _
 have f2:n*2^a<(q+1)*(d*2^b):=by
  have:=Nat.lt_mul_div_succ (n*2^a) hub;rw[hq,Br (n*2^a / (d*2^b)+1)]; exact this
 have f3:n*2^a=q*(d*2^b)+n*2^a%(d*2^b):=by
  rw[hq,Br (n*2^a / (d*2^b))]; exact(Fg _ _).symm
 obtain⟨A,B,rfl,m1,m2⟩:=h;have hq53:q<2^53:=by
  rcases Ad q (2^53)with c|c
  . exact c
  exfalso;have g1:2^53*(d*2^b)<=n*2^a:=Ah (Ag _ c) f1;have g2:=Ag (2^A) g1;have g3:=Bh m2 (x0e a);have e1:2^53*(d*2^b)*2^A=d*2^(53+b+A):=by rw[Av,Av]; ac_rfl
  have e2:n*2^a*2^A=n*2^A*2^a:=by ac_rfl
  have e3:d*2^(B+1)*2^a=d*2^(B+1+a):=by rw[Bj,<-Av]
  rw[e1,e2]at g2;rw[e3]at g3;have:=m0o hd (Cs9 g2 g3);omega
 have hq52:t=0\/2^52<=q:=by
  by_cases c:t=0
  . exact .inl c
  refine .inr ?_;rw[hq,Ez hub];refine Df ?_ (x0e A);have g:=Ag (2^a) m1;have e1:2^52*(d*2^b)*2^A=d*2^(52+b+A):=by rw[Av,Av]; ac_rfl
  have e2:n*2^a*2^A=n*2^A*2^a:=by ac_rfl
  have e3:d*2^B*2^a=d*2^(B+a):=by rw[Bj,<-Av]
  have e4:52+b+A=B+a:=by omega
  rw[e1,e2,e4,<-e3]; exact g
 have ht5:t<=2045:=by omega
 have hr0:rm (t*2^52+q)=q*2^t:=q0e ⟨hq52,by omega⟩;have hr1:rm (t*2^52+q+1)=(q+1)*2^t:=by rw[Ej]; exact q0e ⟨by omega,by omega⟩
 obtain⟨c,hc⟩:∃c,1074=a+c:=⟨1074-a,by omega⟩;have htb:t=b+c:=by omega
 have s0:∀k:Nat,k*2^t*d=k*(d*2^b)*2^c:=by intro k; rw[htb,Av]; ac_rfl
 have s1:n*2^1074=n*2^a*2^c:=by rw[hc,Av]; ac_rfl
 have g1:q*2^t*d<=n*2^1074:=by rw[s0,s1]; exact Ag _ f1
 have g2:n*2^1074<(q+1)*2^t*d:=by rw[s0,s1]; exact Bh f2 (x0e c)
 have hinf:t*2^52+q<infR:=by unfold infR; omega
 refine⟨hq53,hq52,ht5,hr0,⟨hinf,by rw[hr0]; exact g1,.inr (by rw[hr1]; exact g2)⟩,λh0 => ?_,λh0 => ?_,hr1⟩
 . have g3:q*2^t*d=n*2^1074:=by rw[s0,s1,f3,h0,Dm]
   refine⟨by omega,.inr (by rw[hr0,g3]; exact An9 _),?_⟩;by_cases z:t*2^52+q=0
   . exact .inl z
   refine .inr ?_;rw[<-g3,<-hr0];exact Bh (j0q (by omega)) hd
 refine⟨by omega,?_,.inr ?_⟩
 . exact .inr (by rw[hr1]; omega)
 rw[Cf,hr0,s0,s1];exact Bh (by omega) (x0e c)
def magE(n d:Nat):Int :=
 if n*2^(max ((bl d:Int)-bl n) 0).toNat<d*2^(max ((bl n:Int)-bl d) 0).toNat then(bl n:Int)-bl d-1 else(bl n:Int)-bl d
theorem s0q{n d:Nat}(hn:n≠0)(hd:d≠0):Mag n d (magE n d):=by
 obtain⟨A,hA⟩:∃A,A=(max ((bl d:Int)-bl n) 0).toNat:=⟨_,rfl⟩;obtain⟨B,hB⟩:∃B,B=(max ((bl n:Int)-bl d) 0).toNat:=⟨_,rfl⟩;have h:=k0n (n:=n) (d:=d) (x:=bl n) (y:=bl d) (A:=A) (B:=B) (T0i hn) (S0i n) (T0i hd) (S0i d) (d0k hn) (d0k hd) (by omega);unfold magE;rw[<-hA,<-hB];have e:(bl n:Int)-bl d=(B:Int)-A:=by omega
 rw[e];split
 . exact h.1 (by assumption)
 exact h.2 (by omega)
def place(n d:Nat):Int:=max (magE n d-52) (-1074)
def top(n d:Nat):Nat:=n*2^(max (-place n d) 0).toNat
def bot(n d:Nat):Nat:=d*2^(max (place n d) 0).toNat
def w0k(n d:Nat):Nat :=
 if n=0 then 0 else if magE n d>1023 then infR-1 else(place n d+1074).toNat*2^52+top n d / bot n d
def upK(n d:Nat):Nat :=
 if n=0 then 0 else if magE n d>1023 then infR
 else if top n d%bot n d=0 then(place n d+1074).toNat*2^52+top n d / bot n d else(place n d+1074).toNat*2^52+top n d / bot n d+1
theorem P0x{n K x:Nat}(h:n=0)(hx:0<x):n*K<x:=by rw[h,Cy]; exact hx
theorem Q0x{n K x:Nat}(h:n=0):n*K<=x:=by rw[h,Cy]; exact Ev _
theorem M0v{d x:Nat}:rm 0*d<=x:=by rw[o0k,Cy]; exact Ev _
theorem P07.zeroN{n d:Nat}(h:n=0)(hd:0<d):P07 0 n d:=⟨by decide,M0v,.inr (P0x h (Nat.mul_pos (P11 (by omega)) hd))⟩
theorem IsUp.zeroN{n d:Nat}(h:n=0):IsUp 0 n d:=⟨by decide,.inr (Q0x h),.inl rfl⟩
theorem P07.zero{d:Nat}(hd:0<d):P07 0 0 d:=P07.zeroN rfl hd
theorem IsUp.zero(d:Nat):IsUp 0 0 d:=IsUp.zeroN rfl
theorem P07.most{n d:Nat}(h:rm infR*d<=n*2^1074):P07 (infR-1) n d :=
 ⟨by decide,Ah (Ag d (t0e.2 (by omega))) h,.inl (by decide)⟩
theorem IsUp.most{n d:Nat}(hd:0<d)(h:rm infR*d<=n*2^1074):IsUp infR n d :=
 ⟨An9 _,.inl rfl,.inr (Cm (Bh (j0q (by decide)) hd) h)⟩
theorem T0a{n d:Nat}(hd:0<d):P07 (w0k n d) n d:=by
 unfold w0k;by_cases h0:n=0
 . rw[if_pos h0,h0]; exact .zero hd
 rw[if_neg h0];have hM:=s0q h0 (by omega:d≠0);by_cases hc:magE n d>1023
 . rw[if_pos hc]; exact .most (hM.over (by omega))
 rw[if_neg hc];exact(M0h hd hM (by omega) (last:=place n d) rfl (a:=(max (-place n d) 0).toNat) (b:=(max (place n d) 0).toNat) (t:=(place n d+1074).toNat) (by omega) (by omega) rfl (by unfold place; omega)).2.2.2.2.1
theorem d0f{n d:Nat}(hd:0<d):IsUp (upK n d) n d:=by
 unfold upK;by_cases h0:n=0
 . rw[if_pos h0,h0]; exact .zero d
 rw[if_neg h0];have hM:=s0q h0 (by omega:d≠0);by_cases hc:magE n d>1023
 . rw[if_pos hc]; exact .most hd (hM.over (by omega))
 rw[if_neg hc];have f:=(M0h hd hM (by omega) (last:=place n d) rfl (a:=(max (-place n d) 0).toNat) (b:=(max (place n d) 0).toNat) (t:=(place n d+1074).toNat) (by omega) (by omega) rfl (by unfold place; omega)).2.2.2.2.2;by_cases z:top n d%bot n d=0
 . rw[if_pos z]; exact f.1 z
 rw[if_neg z]; exact f.2.1 z
theorem S0x{n d n' d' a K:Nat}(hd:0<d)(h:n*d'=n'*d):a*d'<=n'*K↔a*d<=n*K\/d'=0:=by
 by_cases z:d'=0
 . simp[z]
 have hd':0<d':=by omega
 constructor
 . intro g;refine .inl (Df ?_ hd');have g2:=Ag d g;have e1:a*d*d'=a*d'*d:=by ac_rfl
   have e2:n*K*d'=n'*K*d:=by
    have:n*K*d'=n*d'*K:=by ac_rfl
    rw[this,h]; ac_rfl
   rw[e1,e2]; exact g2
 rintro(g|g)
 . refine Df ?_ hd;have g2:=Ag d' g;have e1:a*d'*d=a*d*d':=by ac_rfl
   have e2:n'*K*d=n*K*d':=by
    have:n*K*d'=n*d'*K:=by ac_rfl
    rw[this,h]; ac_rfl
   rw[e1,e2]; exact g2
 exact absurd g z
theorem T0x{n d n' d' a K:Nat}(hd:0<d)(hd':0<d')(h:n*d'=n'*d):n'*K<=a*d'↔n*K<=a*d:=by
 have e2:n*K*d'=n'*K*d:=by
  have:n*K*d'=n*d'*K:=by ac_rfl
  rw[this,h]; ac_rfl
 constructor
 . intro g;refine Df ?_ hd';rw[e2];have g2:=Ag d g;have e1:a*d*d'=a*d'*d:=by ac_rfl
   rw[e1]; exact g2
 intro g;refine Df ?_ hd;rw[<-e2];have g2:=Ag d' g;have e1:a*d'*d=a*d*d':=by ac_rfl
 rw[e1]; exact g2
theorem P07.congr{r n d n' d':Nat}(hd:0<d)(hd':0<d')(h:n*d'=n'*d)(k:P07 r n d):P07 r n' d':=by
 refine⟨k.lt,(@S0x n d n' d' (rm r) _ hd h).2 (.inl k.le),?_⟩;rcases k.next with e|e
 . exact .inl e
 refine .inr (Em λg => ?_);rcases (@S0x n d n' d' (rm (r+1)) _ hd h).1 g with g|g
 . omega
 omega
theorem IsUp.congr{r n d n' d':Nat}(hd:0<d)(hd':0<d')(h:n*d'=n'*d)(k:IsUp r n d):IsUp r n' d':=by
 refine⟨k.le,?_,?_⟩
 . rcases k.ge with e|e
   . exact .inl e
   exact .inr ((@T0x n d n' d' (rm r) _ hd hd' h).2 e)
 rcases k.prev with e|e
 . exact .inl e
 refine .inr (Em λg => ?_);have:=(@T0x n d n' d' (rm (r-1)) _ hd hd' h).1 g;omega
def E0m(q:Rat):Int:=if 0<=q.num then(w0k q.num.natAbs q.den:Int)else -(upK q.num.natAbs q.den:Int)
def F0m(q:Rat):Int:=if 0<=q.num then(upK q.num.natAbs q.den:Int)else -(w0k q.num.natAbs q.den:Int)
structure Eb where
 inf:Int
 x:Rat
deriving DecidableEq
namespace Eb
def fin(x:Rat):Eb:=⟨0,x⟩
def ok(a:Eb):Prop:=a.inf=0\/(a.x=0/\(a.inf=1\/a.inf = -1))
def num(a:Eb):Cq:=⟨a.x,0⟩
def cmp(a b:Eb):Int:=if a.inf≠0\/b.inf≠0 then cmpZ a.inf b.inf else cmpR a.x b.x
def sign(a:Eb):Int:=cmp a (fin 0)
def neg(a:Eb):Eb:=⟨-a.inf,-a.x⟩
def add(a b:Eb):Eb:=if a.inf≠0 then a else if b.inf≠0 then b else⟨0,a.x+b.x⟩
def mul(a b:Eb):Eb:=if a.inf=0/\b.inf=0 then⟨0,a.x*b.x⟩else⟨a.sign*b.sign,0⟩
theorem neg_ok{a:Eb}(h:a.ok):a.neg.ok:=by
 rcases h with h|⟨h,h2⟩
 . left; show -a.inf=0; omega
 right; refine⟨?_,?_⟩
 . show -a.x=0; rw[h]; rfl
 show -a.inf=1 \/ -a.inf = -1; omega
theorem N0v(a b:Int):cmpZ a b = -1\/cmpZ a b=0\/cmpZ a b=1:=by unfold cmpZ; split<;>(try split)<;>simp
theorem O0v(a b:Rat):cmpR a b = -1\/cmpR a b=0\/cmpR a b=1:=by unfold cmpR; split<;>(try split)<;>simp
theorem cmp_range(a b:Eb):cmp a b = -1\/cmp a b=0\/cmp a b=1:=by
 unfold cmp; split
 . exact N0v _ _
 exact O0v _ _
theorem mul_ok(a b:Eb):(a.mul b).ok:=by
 unfold mul; split
 . exact .inl rfl
 have h1:a.sign = -1\/a.sign=0\/a.sign=1:=cmp_range _ _;have h2:b.sign = -1\/b.sign=0\/b.sign=1:=cmp_range _ _;rcases h1 with h1|h1|h1<;>rcases h2 with h2|h2|h2<;>rw[h1,h2]<;>unfold ok<;>simp
def pick(way:Int):List Eb->Eb
 | []=>⟨0,0⟩
 | e::es=>es.foldl (λo x=>if cmp x o=way then x else o) e
theorem pick_mem(way:Int):∀(es:List Eb) (e:Eb),es.foldl (λo x=>if cmp x o=way then x else o) e=e\/es.foldl (λo x=>if cmp x o=way then x else o) e∈es
 | [],_ => .inl rfl
 | x::es,e=>by
   simp only[List.foldl_cons];rcases pick_mem way es (if cmp x e=way then x else e)with h|h
   . rw[h]; split
     . exact .inr (by simp)
     exact .inl rfl
   exact .inr (by simp[h])
end Eb
structure Es where
 lo:Eb
 hi:Eb
namespace Es
def add(a b:Es):Es:=⟨a.lo.add b.lo,a.hi.add b.hi⟩
def zero(a:Es):Bool:=decide (a.lo.sign<=0)&&decide (0<=a.hi.sign)
end Es
structure Sk where
 lo:Int
 hi:Int
deriving DecidableEq
def fkq(k:Int):Rat:=(kz k:Rat) / ((2^1074:Nat):Rat)
def endE(k:Int):Eb:=if k=(infR:Int)then⟨1,0⟩else if k = -(infR:Int)then⟨-1,0⟩else⟨0,fkq k⟩
def Sk.set(s:Sk):Es:=⟨endE s.lo,endE s.hi⟩
def Es.span(a:Es):Sk:=⟨if a.lo.inf=0 then E0m a.lo.x else -(infR:Int),if a.hi.inf=0 then F0m a.hi.x else(infR:Int)⟩
def inK(k:Int):Prop := -(infR:Int)<=k/\k<=(infR:Int)
theorem t0q(q:Rat):inK (E0m q):=by
 have hd:0<q.den:=by have:=q.den_nz; omega
 have h1:=(T0a (n:=q.num.natAbs) hd).lt;have h2:=(d0f (n:=q.num.natAbs) hd).le;unfold E0m inK; split<;>omega
theorem u0q(q:Rat):inK (F0m q):=by
 have hd:0<q.den:=by have:=q.den_nz; omega
 have h1:=(T0a (n:=q.num.natAbs) hd).lt;have h2:=(d0f (n:=q.num.natAbs) hd).le;unfold F0m inK; split<;>omega
structure Sk.ok (s:Sk):Prop where
 lo:inK s.lo
 hi:inK s.hi
theorem l0n(a:Es):a.span.ok:=by
 refine⟨?_,?_⟩
 . unfold Es.span; dsimp only; split
   . exact t0q _
   unfold inK; omega
 unfold Es.span; dsimp only; split
 . exact u0q _
 unfold inK; omega
def Sk.v(k:Sk):SpV:=⟨m07 k.lo,m07 k.hi⟩
def Sk.hull(s t:Sk):Sk:=⟨min s.lo t.lo,max s.hi t.hi⟩
theorem Sk.hull_ok{s t:Sk}(h:s.ok)(k:t.ok):(s.hull t).ok:=by
 have a:=h.lo; have b:=h.hi; have c:=k.lo; have d:=k.hi;unfold inK at a b c d;exact⟨by unfold inK Sk.hull; dsimp only; omega,by unfold inK Sk.hull; dsimp only; omega⟩
def Sk.nil:Sk:=⟨0,0⟩
theorem U0x:inK 0:=by unfold inK infR; omega
theorem z0z:Sk.nil.ok:=⟨U0x,U0x⟩
theorem okK{k:Int}(h:inK k):okW (m07 k):=k10 h.1 h.2
theorem keyK{k:Int}(h:inK k):key (m07 k)=k:=F0x h.1 h.2
theorem y10{a b:Int}(ha:inK a)(hb:inK b):fmax .f64 (m07 a) (m07 b)=m07 (max a b):=by
 unfold fmax;rw[q0b (okK ha) (okK hb),keyK ha,keyK hb];rcases Int.lt_trichotomy a b with h|h|h
 . rw[show compare a b = .lt from Int.compare_eq_lt.2 h]; dsimp only; rw[Int.max_eq_right (by omega)]
 . subst h; rw[show compare a a = .eq from Int.compare_eq_eq.2 rfl]; dsimp only; rw[Int.max_eq_left (by omega)]; split<;>rfl
 rw[show compare a b = .gt from Int.compare_eq_gt.2 h]; dsimp only; rw[Int.max_eq_left (by omega)]
theorem z10{a b:Int}(ha:inK a)(hb:inK b):fmin .f64 (m07 a) (m07 b)=m07 (min a b):=by
 unfold fmin;rw[q0b (okK ha) (okK hb),keyK ha,keyK hb];rcases Int.lt_trichotomy a b with h|h|h
 . rw[show compare a b = .lt from Int.compare_eq_lt.2 h]; dsimp only; rw[Int.min_eq_left (by omega)]
 . subst h; rw[show compare a a = .eq from Int.compare_eq_eq.2 rfl]; dsimp only; rw[Int.min_eq_left (by omega)]; split<;>rfl
 rw[show compare a b = .gt from Int.compare_eq_gt.2 h]; dsimp only; rw[Int.min_eq_right (by omega)]
theorem G0m{a b:Int}(ha:inK a)(hb:inK b):(FloatKind.f64.format.order (m07 a) (m07 b)).isSome=true:=by
 rw[q0b (okK ha) (okK hb)]; rfl
theorem geK{a b:Int}(ha:inK a)(hb:inK b):((FloatKind.f64.format.order (m07 a) (m07 b)==some .gt)||(FloatKind.f64.format.order (m07 a) (m07 b)==some .eq))=decide (b<=a):=by
 rw[p14 (okK ha) (okK hb),keyK ha,keyK hb]
theorem ltK{a b:Int}(ha:inK a)(hb:inK b):(FloatKind.f64.format.order (m07 a) (m07 b)==some .lt)=decide (a<b):=by
 rw[Q11 (okK ha) (okK hb),keyK ha,keyK hb]
structure Bk where
 re:Sk
 im:Sk
deriving DecidableEq
structure Bk.ok (b:Bk):Prop where
 re:b.re.ok
 im:b.im.ok
def Bk.v(b:Bk):BoxV:=⟨b.re.v,b.im.v⟩
def Bk.nil:Bk:=⟨Sk.nil,Sk.nil⟩
def Bk.hull(b c:Bk):Bk:=⟨b.re.hull c.re,b.im.hull c.im⟩
theorem Bk.hull_ok{b c:Bk}(h:b.ok)(k:c.ok):(b.hull c).ok:=⟨Sk.hull_ok h.re k.re,Sk.hull_ok h.im k.im⟩
def Eb.abs(a:Eb):Eb:=if a.sign<0 then a.neg else a
def Es.size(a:Es):Es:=if a.zero then⟨Eb.fin 0,Eb.pick 1 [a.lo.abs,a.hi.abs]⟩else⟨Eb.pick (-1) [a.lo.abs,a.hi.abs],Eb.pick 1 [a.lo.abs,a.hi.abs]⟩
def Es.square(a:Es):Es:=⟨a.size.lo.mul a.size.lo,a.size.hi.mul a.size.hi⟩
def boxC(_:View)(x:List Value)(b:Bk):Prop:=x=b.v.val.cells.toList/\b.ok
theorem boxC.le{V V':View}(_:V.le V')(x:List Value)(b:Bk)(h:boxC V x b):boxC V' x b:=h
structure P3 where
 x:Cq
 y:Cq
 z:Cq
def P3.real(p:P3):Bool:=decide (p.x.im=0)&&(decide (p.y.im=0)&&decide (p.z.im=0))
def P3.szle(p:P3)(S:Nat):Prop:=p.x.sz<=S/\p.y.sz<=S/\p.z.sz<=S
def P3.zero:P3:=⟨Cq.zero,Cq.zero,Cq.zero⟩
def C0i(p:P3)(f:Cq)(q:P3):P3:=⟨p.x+f*q.x,p.y+f*q.y,p.z+f*q.z⟩
theorem W0x{p q:P3}{f:Cq}{S T F:Nat}(hp:p.szle S)(hq:q.szle T)(hf:f.sz<=F):(C0i p f q).szle (S+T+F+2):=by
 have a1:=D02 f q.x; have a2:=D02 f q.y; have a3:=D02 f q.z;have b1:=q06 p.x (f*q.x); have b2:=q06 p.y (f*q.y); have b3:=q06 p.z (f*q.z);obtain⟨h1,h2,h3⟩:=hp;obtain⟨k1,k2,k3⟩:=hq;refine⟨?_,?_,?_⟩
 . show(p.x+f*q.x).sz<=_; omega
 . show(p.y+f*q.y).sz<=_; omega
 show(p.z+f*q.z).sz<=_; omega
structure F3 where
 o:P3
 u:P3
 v:P3
def F3.real(f:F3):Bool:=f.o.real&&(f.u.real&&f.v.real)
def F3.zero:F3:=⟨P3.zero,P3.zero,P3.zero⟩
structure F3.szle (f:F3) (S:Nat):Prop where
 o:f.o.szle S
 u:f.u.szle S
 v:f.v.szle S
def C0f(f:F3)(i j:Cq):P3:=C0i (C0i f.o i f.u) j f.v
structure l07 (V:View) (s:M03) (p:P3):Prop where
 x:Q00 V s.x p.x
 y:Q00 V s.y p.y
 z:Q00 V s.z p.z
theorem l07.le{V V':View}(hle:V.le V'){s:M03}{p:P3}(h:l07 V s p):l07 V' s p:=⟨h.x.le hle,h.y.le hle,h.z.le hle⟩
def zN:NumV:=NumV.mk (WhV.mk false (Sl.mk none 0 0)) (WhV.mk false (Sl.mk none 0 0)) (Sl.mk none 0 0)
theorem l07.zero(V:View):l07 V ⟨zN,zN,zN⟩ P3.zero:=⟨Q00.zero V,Q00.zero V,Q00.zero V⟩
structure s0b (V:View) (s:S05) (f:F3):Prop where
 o:l07 V s.o f.o
 u:l07 V s.u f.u
 v:l07 V s.v f.v
theorem s0b.le{V V':View}(hle:V.le V'){s:S05}{f:F3}(h:s0b V s f):s0b V' s f:=⟨h.o.le hle,h.u.le hle,h.v.le hle⟩
theorem s0b.zero(V:View):s0b V ⟨⟨zN,zN,zN⟩,⟨zN,zN,zN⟩,⟨zN,zN,zN⟩⟩ F3.zero:=⟨l07.zero V,l07.zero V,l07.zero V⟩
def C0s(V:View)(x:List Value)(p:P3):Prop:=∃s:M03,x=s.val.cells.toList/\l07 V s p
theorem C0s.le{V V':View}(hle:V.le V')(x:List Value)(p:P3)(h:C0s V x p):C0s V' x p:=by
 obtain⟨s,e,hs⟩:=h; exact⟨s,e,hs.le hle⟩
theorem G0t{V:View}{a b c:NumV}{x y z:Cq}(ha:Q00 V a x)(hb:Q00 V b y)(hc:Q00 V c z) :
 f01 5 numC V (a.val.cells.toList++(b.val.cells.toList++c.val.cells.toList)) [x,y,z] :=
 ⟨a.val.cells.toList,_,rfl,rfl,⟨a,rfl,ha⟩,b.val.cells.toList,_,rfl,rfl,⟨b,rfl,hb⟩,c.val.cells.toList,[],by simp,rfl,⟨c,rfl,hc⟩,rfl⟩
theorem w0q{V:View}{o:List Value}{x y z:Cq}(h:f01 5 numC V o [x,y,z]):∃a:O04,o=a.val.cells.toList/\Q00 V a.e0 x/\Q00 V a.e1 y/\Q00 V a.e2 z:=by
 obtain⟨_,o1,e1,_,⟨a,rfl,ha⟩,_,o2,e2,_,⟨b,rfl,hb⟩,_,o3,e3,_,⟨c,rfl,hc⟩,e4⟩:=h;have e4:o3=[]:=e4;subst e4; subst e3; subst e2; subst e1;exact⟨⟨a,b,c⟩,rfl,ha,hb,hc⟩
def detD(n:Nat)(A:Nat->Nat->Cq):Cq :=
 match n with
 | 0=>Cq.one
 | 1=>A 0 0
 | 2=>A 0 0*A 1 1-A 0 1*A 1 0
 | _=>A 0 0*(A 1 1*A 2 2-A 1 2*A 2 1)-A 0 1*(A 1 0*A 2 2-A 1 2*A 2 0)+A 0 2*(A 1 0*A 2 1-A 1 1*A 2 0)
def effF(c:Nat)(B:Nat->Nat->Cq):Nat->Nat->Cq:=λi k=>if k<c/\k<i then Cq.zero else B i k
theorem X0x(a b c d:Cq):c*b-d*a = -(a*d-b*c):=by
 refine Cq.ext' ?_ ?_<;>simp only[G07,H07,o02,u02,F01,G01]<;>grind
def det3(a b c d e f g h i:Cq):Cq:=a*(e*i-f*h)-b*(d*i-f*g)+c*(d*h-e*g)
theorem K12(a b c d e f g h i:Cq):det3 d e f a b c g h i = -det3 a b c d e f g h i:=by
 unfold det3;refine Cq.ext' ?_ ?_<;>simp only[G07,H07,o02,u02,F01,G01,P01,Q01]<;>grind
theorem M12(a b c d e f g h i:Cq):det3 g h i d e f a b c = -det3 a b c d e f g h i:=by
 unfold det3;refine Cq.ext' ?_ ?_<;>simp only[G07,H07,o02,u02,F01,G01,P01,Q01]<;>grind
theorem N12(a b c d e f g h i:Cq):det3 a b c g h i d e f = -det3 a b c d e f g h i:=by
 unfold det3;refine Cq.ext' ?_ ?_<;>simp only[G07,H07,o02,u02,F01,G01,P01,Q01]<;>grind
theorem O12(a b c d e f g h i u v:Cq)(hu:u*a=d)(hv:v*a=g):det3 a b c Cq.zero (e-u*b) (f-u*c) Cq.zero (h-v*b) (i-v*c)=det3 a b c d e f g h i:=by
 subst hu; subst hv;unfold det3;refine Cq.ext' ?_ ?_<;>simp only[Cq.zero,o02,u02,F01,G01,P01,Q01]<;>grind
theorem P12(a b c e f h i v:Cq)(hv:v*e=h):det3 a b c Cq.zero e f Cq.zero Cq.zero (i-v*f)=det3 a b c Cq.zero e f Cq.zero h i:=by
 subst hv;unfold det3;refine Cq.ext' ?_ ?_<;>simp only[Cq.zero,o02,u02,F01,G01,P01,Q01]<;>grind
theorem A10(a b c e f i:Cq):det3 a b c Cq.zero e f Cq.zero Cq.zero i=a*e*i:=by
 unfold det3;refine Cq.ext' ?_ ?_<;>simp only[Cq.zero,o02,u02,F01,G01,P01,Q01]<;>grind
theorem o08(A:Nat->Nat->Cq):detD 3 A=det3 (A 0 0) (A 0 1) (A 0 2) (A 1 0) (A 1 1) (A 1 2) (A 2 0) (A 2 1) (A 2 2):=rfl
theorem Q12(a b c d u:Cq)(hu:u*a=c):a*(d-u*b)-b*Cq.zero=a*d-b*c:=by
 subst hu;refine Cq.ext' ?_ ?_<;>simp only[Cq.zero,o02,u02,F01,G01]<;>grind
theorem B10{n c p:Nat}(hn:n<=3)(hc:c<p)(hp:p<n)(B:Nat->Nat->Cq):detD n (effF c (w0f B c p)) = -detD n (effF c B):=by
 have:(n=2/\c=0/\p=1)\/(n=3/\c=0/\p=1)\/(n=3/\c=0/\p=2)\/(n=3/\c=1/\p=2):=by omega
 rcases this with⟨rfl,rfl,rfl⟩|⟨rfl,rfl,rfl⟩|⟨rfl,rfl,rfl⟩|⟨rfl,rfl,rfl⟩
 . show B 1 0*B 0 1-B 1 1*B 0 0 = -(B 0 0*B 1 1-B 0 1*B 1 0);exact X0x _ _ _ _
 . rw[o08,o08]; exact K12 _ _ _ _ _ _ _ _ _
 . rw[o08,o08]; exact M12 _ _ _ _ _ _ _ _ _
 rw[o08,o08]; exact N12 _ _ _ _ _ _ _ _ _
theorem S12{n w c:Nat}(hn:n<=3)(hc:c<n)(hw:n<=w)(B:Nat->Nat->Cq)(h0:B c c≠Cq.zero):detD n (effF (c+1) (colF numO w B c n))=detD n (effF c B):=by
 have low:∀i k,¬(c<i/\i<n/\c<k/\k<w)->colF numO w B c n i k=B i k:=λi k h=>by unfold colF; rw[if_neg h]
 have high:∀i k,(c<i/\i<n/\c<k/\k<w)->colF numO w B c n i k=B i k-(B i c).div (B c c)*B c k:=λi k h=>by unfold colF; rw[if_pos h]; rfl
 have this:(n=1/\c=0)\/(n=2/\c=0)\/(n=2/\c=1)\/(n=3/\c=0)\/(n=3/\c=1)\/(n=3/\c=2):=by omega
 rcases this with⟨rfl,rfl⟩|⟨rfl,rfl⟩|⟨rfl,rfl⟩|⟨rfl,rfl⟩|⟨rfl,rfl⟩|⟨rfl,rfl⟩
 . show colF numO w B 0 1 0 0=B 0 0;exact low _ _ (by omega)
 . show colF numO w B 0 2 0 0*colF numO w B 0 2 1 1-colF numO w B 0 2 0 1*Cq.zero=B 0 0*B 1 1-B 0 1*B 1 0;rw[low 0 0 (by omega),low 0 1 (by omega),high 1 1 (by omega)];exact Q12 _ _ _ _ _ (k09 h0)
 . show colF numO w B 1 2 0 0*colF numO w B 1 2 1 1-colF numO w B 1 2 0 1*Cq.zero=B 0 0*B 1 1-B 0 1*Cq.zero;rw[low 0 0 (by omega),low 0 1 (by omega),low 1 1 (by omega)]
 . show det3 (colF numO w B 0 3 0 0) (colF numO w B 0 3 0 1) (colF numO w B 0 3 0 2) Cq.zero (colF numO w B 0 3 1 1) (colF numO w B 0 3 1 2) Cq.zero (colF numO w B 0 3 2 1) (colF numO w B 0 3 2 2)=_;rw[low 0 0 (by omega),low 0 1 (by omega),low 0 2 (by omega),high 1 1 (by omega),high 1 2 (by omega),high 2 1 (by omega),high 2 2 (by omega),o08];exact O12 _ _ _ _ _ _ _ _ _ _ _ (k09 h0) (k09 h0)
 . show det3 (colF numO w B 1 3 0 0) (colF numO w B 1 3 0 1) (colF numO w B 1 3 0 2) Cq.zero (colF numO w B 1 3 1 1) (colF numO w B 1 3 1 2) Cq.zero Cq.zero (colF numO w B 1 3 2 2)=_;rw[low 0 0 (by omega),low 0 1 (by omega),low 0 2 (by omega),low 1 1 (by omega),low 1 2 (by omega),high 2 2 (by omega),o08];exact P12 _ _ _ _ _ _ _ _ (k09 h0)
 show det3 (colF numO w B 2 3 0 0) (colF numO w B 2 3 0 1) (colF numO w B 2 3 0 2) Cq.zero (colF numO w B 2 3 1 1) (colF numO w B 2 3 1 2) Cq.zero Cq.zero (colF numO w B 2 3 2 2)=_;rw[low 0 0 (by omega),low 0 1 (by omega),low 0 2 (by omega),low 1 1 (by omega),low 1 2 (by omega),low 2 2 (by omega)]; rfl
theorem C10{n:Nat}(hn:n<=3)(h0:0<n)(B:Nat->Nat->Cq):detD n (effF n B)=K0x numO B (n-1):=by
 have:n=1\/n=2\/n=3:=by omega
 rcases this with rfl|rfl|rfl
 . rfl
 . show B 0 0*B 1 1-B 0 1*Cq.zero=B 0 0*B 1 1;rw[Cq.mul_zero,Cq.sub_zero]
 show det3 (B 0 0) (B 0 1) (B 0 2) Cq.zero (B 1 1) (B 1 2) Cq.zero Cq.zero (B 2 2)=_;exact A10 _ _ _ _ _ _
theorem D10{n c:Nat}(hn:n<=3)(hc:c<n)(B:Nat->Nat->Cq)(h:∀i,c<=i->i<n->B i c=Cq.zero):detD n (effF c B)=Cq.zero:=by
 have this:(n=1/\c=0)\/(n=2/\c=0)\/(n=2/\c=1)\/(n=3/\c=0)\/(n=3/\c=1)\/(n=3/\c=2):=by omega
 rcases this with⟨rfl,rfl⟩|⟨rfl,rfl⟩|⟨rfl,rfl⟩|⟨rfl,rfl⟩|⟨rfl,rfl⟩|⟨rfl,rfl⟩
 . exact h 0 (by omega) (by omega)
 . show B 0 0*B 1 1-B 0 1*B 1 0=_;rw[h 0 (by omega) (by omega),h 1 (by omega) (by omega),Cq.mul_zero,Cq.zero_mul,Cq.sub_zero]
 . show B 0 0*B 1 1-B 0 1*Cq.zero=_;rw[h 1 (by omega) (by omega),Cq.mul_zero,Cq.mul_zero,Cq.sub_zero]
 . show det3 (B 0 0) (B 0 1) (B 0 2) (B 1 0) (B 1 1) (B 1 2) (B 2 0) (B 2 1) (B 2 2)=_;rw[h 0 (by omega) (by omega),h 1 (by omega) (by omega),h 2 (by omega) (by omega)];unfold det3;refine Cq.ext' ?_ ?_<;>simp only[Cq.zero,o02,u02,F01,G01,P01,Q01]<;>grind
 . show det3 (B 0 0) (B 0 1) (B 0 2) Cq.zero (B 1 1) (B 1 2) Cq.zero (B 2 1) (B 2 2)=_;rw[h 1 (by omega) (by omega),h 2 (by omega) (by omega)];unfold det3;refine Cq.ext' ?_ ?_<;>simp only[Cq.zero,o02,u02,F01,G01,P01,Q01]<;>grind
 show det3 (B 0 0) (B 0 1) (B 0 2) Cq.zero (B 1 1) (B 1 2) Cq.zero Cq.zero (B 2 2)=_;rw[h 2 (by omega) (by omega)];unfold det3;refine Cq.ext' ?_ ?_<;>simp only[Cq.zero,o02,u02,F01,G01,P01,Q01]<;>grind
def y0e(n c s:Nat)(A B:Nat->Nat->Cq):Prop:=detD n (effF c B)=if s%2=1 then -detD n A else detD n A
theorem W0g(z:Cq) : - -z=z:=by refine Cq.ext' ?_ ?_<;>simp only[G07,H07]<;>grind
theorem y0e.step{n w c s p:Nat}{A B:Nat->Nat->Cq}(hn:n<=3)(h:y0e n c s A B)(hc:c<=p)(hp:p<n)(hw:n<=w)(h0:B p c≠Cq.zero) :
 y0e n (c+1) (if p=c then s else s+1) A (colF numO w (q0a B c p) c n):=by
 unfold y0e at h ⊢;rw[S12 hn (by omega) hw _ (by rw[s0k]; exact h0)];unfold q0a;by_cases e:p=c
 . rw[if_pos e,if_pos e]; exact h
 rw[if_neg e,if_neg e,B10 hn (by omega) hp,h];by_cases g:s%2=1
 . rw[if_pos g,if_neg (by omega),W0g]
 rw[if_neg g,if_pos (by omega)]
theorem y0e.start(n:Nat)(A:Nat->Nat->Cq):y0e n 0 0 A A:=by
 unfold y0e;rw[if_neg (by omega)];congr 1
theorem y0e.diag{n s:Nat}{A B:Nat->Nat->Cq}(hn:n<=3)(h0:0<n)(h:y0e n n s A B):(if s%2=1 then -K0x numO B (n-1)else K0x numO B (n-1))=detD n A:=by
 unfold y0e at h;rw[C10 hn h0]at h;rw[h];by_cases g:s%2=1
 . rw[if_pos g,if_pos g,W0g]
 rw[if_neg g,if_neg g]
theorem y0e.stop{n c s:Nat}{A B:Nat->Nat->Cq}(hn:n<=3)(hc:c<n)(h:y0e n c s A B)(h0:∀i,c<=i->i<n->B i c=Cq.zero):detD n A=Cq.zero:=by
 unfold y0e at h;rw[D10 hn hc B h0]at h;by_cases g:s%2=1
 . rw[if_pos g]at h;have:=Ck (λz => -z) h;simp only[W0g]at this;rw[<-this]; decide
 rw[if_neg g]at h; exact h.symm
theorem A0z{x y:Cq}(hx:x≠Cq.zero)(hy:y≠Cq.zero):x*y≠Cq.zero:=λe=>hx (B0b hy (by rw[e,Cq.zero_mul]))
theorem H0t{B:Nat->Nat->Cq}:∀(j:Nat),(∀i,i<=j->B i i≠Cq.zero)->K0x numO B j≠Cq.zero
 | 0,h=>h 0 (An9 0)
 | j+1,h=>A0z (H0t j λi hi=>h i (by omega)) (h (j+1) (An9 _))
theorem K14{x:Cq}(h:x≠Cq.zero) : -x≠Cq.zero:=λe=>h (by rw[<-W0g x,e]; decide)
theorem x0q{n w:Nat}(hn:n<=3)(hw:n<=w)(A:Nat->Nat->Cq):∀(k c:Nat) (B:Nat->Nat->Cq) (s:Nat),k+c=n->y0e n c s A B ->
 (match (j08 numO n w k c B s).2.2 with
 | none=>y0e n n (j08 numO n w k c B s).2.1 A (j08 numO n w k c B s).1
 | some _=>detD n A=Cq.zero)
 | 0,c,B,s,hk,h=>by
   have:c=n:=by omega
   subst this; exact h
 | k+1,c,B,s,hk,h=>by
   obtain⟨p1,p2,p3,p4⟩:=L0c numO B (c:=c) (n:=n) (by omega);rw[j08];by_cases hp:pivF numO B c n=n
   . rw[if_pos hp];exact h.stop hn (by omega) λi h1 h2=>q0q.1 (p3 i h1 (by omega))
   rw[if_neg hp];exact x0q hn hw A k (c+1) _ _ (by omega) (h.step hn p1 (by omega) hw (p0j.1 (p4 (by omega))))
theorem I0t{n w:Nat}(hn:n<=3)(h0:0<n)(hw:n<=w)(A:Nat->Nat->Cq):(elim numO n w A).2.2=none↔detD n A≠Cq.zero:=by
 have h:=x0q hn hw A n 0 A 0 (by omega) (y0e.start n A);unfold elim;cases e:(j08 numO n w n 0 A 0).2.2 with
 | none =>
   rw[e]at h;refine⟨λ_ => ?_,λ_=>rfl⟩;have hd:=L0h numO n w n 0 A 0 (by omega) (λi hi=>absurd hi (by omega)) e;have hne:=H0t (B:=(j08 numO n w n 0 A 0).1) (n-1) λi hi=>p0j.1 (hd i (by omega))
   rw[<-y0e.diag hn h0 h];split
   . exact K14 hne
   exact hne
 | some c =>
   rw[e]at h;exact⟨λg=>by simp at g,λg=>absurd h g⟩
structure Tk where
 time:Cq
 place:Cq
def Tk.real(k:Tk):Bool:=decide (k.time.im=0)&&decide (k.place.im=0)
def ascF:Option Rat->List Tk->Int
 | _,[]=>0
 | last,k::l=>if k.real=false then 1 else match last with
   | some r=>if k.time.re<=r then 7 else ascF (some k.time.re) l
   | none=>ascF (some k.time.re) l
def j0a(l:List Tk):Int:=if l.length=0\/4096<l.length then 4 else ascF none l
def J0a(a b r:Cq):Cq:=a+r*(b-a)
def z0e(x a b:Cq):Cq:=(x-a).div (b-a)
def Asc:Option Rat->List Tk->Prop
 | _,[]=>True
 | last,k::l=>(k.time.im=0/\k.place.im=0)/\(∀r,last=some r->r<k.time.re)/\Asc (some k.time.re) l
theorem Y0x:∀ {l:List Tk} {last:Option Rat},ascF last l=0->Asc last l
 | [],_,_=>trivial
 | k::l,last,h=>by
   unfold ascF at h;by_cases hr:k.real=false
   . rw[if_pos hr]at h; simp at h
   rw[if_neg hr]at h;have hr:k.real=true:=by simpa using hr
   have hr2:k.time.im=0/\k.place.im=0:=by
    unfold Tk.real at hr; simpa using hr
   cases last with
   | none=>exact⟨hr2,λr h=>by simp at h,Y0x h⟩
   | some r =>
     by_cases c:k.time.re<=r
     . simp only[if_pos c]at h; simp at h
     simp only[if_neg c]at h;exact⟨hr2,λr' h'=>by
      obtain rfl:=Option.some.inj h';exact Rat.not_le.1 c,Y0x h⟩
def p08(t:Cq):Option Tk->List Tk->Option Cq
 | _,[]=>none
 | prev,k::l=>if 0<=k.time.cmp t then(if k.time=t then some k.place else match prev with
     | none=>none
     | some p=>some (J0a p.place k.place (z0e t p.time k.time)))else p08 t (some k) l
theorem e0f{z w:Cq}(hz:z.im=0)(hw:w.im=0):z.cmp w=cmpR z.re w.re:=by
 unfold Cq.cmp;rw[hz,hw];split
 . rfl
 rename_i h;have h:cmpR z.re w.re=0:=by simpa using h
 rw[h]; rfl
theorem Z0x{x y:Rat}:0<=cmpR x y↔y<=x:=by
 unfold cmpR;by_cases c:x<y
 . rw[if_pos c]; exact⟨λh=>absurd h (by decide),λh=>absurd h (Rat.not_le.2 c)⟩
 rw[if_neg c];have c':y<=x:=Rat.not_lt.1 c;split
 . exact⟨λ_=>c',λ_=>by decide⟩
 exact⟨λ_=>c',λ_=>by decide⟩
def M0c(p:Cq):Tk->List Tk->Option Cq
 | _,[]=>none
 | a,b::l=>if 0<(a.place.cmp p)*(b.place.cmp p)\/a.place=b.place then M0c p b l else some (J0a a.time b.time (z0e p a.place b.place))
def t0b(p:Cq):List Tk->Option Cq
 | []=>none
 | k::l=>if k.place=p then some k.time else M0c p k l
theorem K0a(x y:Rat):(x<y/\cmpR x y = -1)\/(x=y/\cmpR x y=0)\/(y<x/\cmpR x y=1):=by
 unfold cmpR;by_cases c:x<y
 . exact .inl ⟨c,by rw[if_pos c]⟩
 by_cases d:x=y
 . exact .inr (.inl ⟨d,by rw[if_neg c,if_pos d]⟩)
 exact .inr (.inr ⟨by grind,by rw[if_neg c,if_neg d]⟩)
structure H0m (V:View) (s:z0g) (k:Tk):Prop where
 time:Q00 V s.time k.time
 place:Q00 V s.place k.place
theorem H0m.le{V V':View}(hle:V.le V'){s:z0g}{k:Tk}(h:H0m V s k):H0m V' s k:=⟨h.time.le hle,h.place.le hle⟩
def y0q(V:View)(x:List Value)(k:Tk):Prop:=∃s:z0g,x=s.val.cells.toList/\H0m V s k
theorem y0q.le{V V':View}(hle:V.le V')(x:List Value)(k:Tk)(h:y0q V x k):y0q V' x k:=by
 obtain⟨s,e,hs⟩:=h; exact⟨s,e,hs.le hle⟩
def C07(V:View)(s:Sl)(l:List Tk):Prop:=n00 10 y0q V s l
theorem C07.le{V V':View}(hle:V.le V'){s:Sl}{l:List Tk}(h:C07 V s l):C07 V' s l:=n00.le (y0q.le hle) hle h
theorem J0t{V:View}{p:Option Addr}{l m:List Value}{k:Nat}(h:V.has p l)(hm:∀j v,m[j]?=some v->l[k+j]?=some v):V.has (Option.map (λq=>Addr.add q k) p) m:=by
 intro j v hv;have:=h (k+j) v (hm j v hv);rw[Gk];have e:((λx:Addr=>x.add j)∘λq:Addr=>q.add k)=λq:Addr=>q.add (k+j):=by
  funext a; exact S0g a _ _
 rw[e]; exact this
theorem I0m(s:z0g):(∀(j:Nat) v,s.time.val.cells.toList[j]?=some v->s.val.cells.toList[0+j]?=some v)/\(∀(j:Nat) v,s.place.val.cells.toList[j]?=some v->s.val.cells.toList[5+j]?=some v):=by
 have e:s.val.cells.toList=s.time.val.cells.toList++s.place.val.cells.toList:=rfl;have h5:s.time.val.cells.toList.length=5:=rfl;refine⟨λj v hj => ?_,λj v hj => ?_⟩
 . rw[e,Am,Dx]
   . exact hj
   rcases Ad j s.time.val.cells.toList.length with g|g
   . exact g
   rw[Ab g]at hj; simp at hj
 rw[e,List.getElem?_append_right (by omega),h5];have:5+j-5=j:=by omega
 rw[this]; exact hj
theorem N09{V:View}{s:Sl}{l:List Tk}(h:C07 V s l){t:Int}(h0:0<=t){k:Tk}(hk:l[t.toNat]?=some k) :
 ((0:Int)<=t/\t<(s.len:Nat)/\Option.isSome s.a=true) /\
 ∃y:z0g,H0m V y k/\V.has (Option.map (λq=>Addr.add q (Int.toNat t*10)) s.a) y.val.cells.toList/\Option.isSome (Option.map (λq=>Addr.add q (Int.toNat t*10)) s.a)=true /\
  (V.has (Option.map (λq=>Addr.add q 0) (Option.map (λq=>Addr.add q (Int.toNat t*10)) s.a)) y.time.val.cells.toList/\Option.isSome (Option.map (λq=>Addr.add q 0) (Option.map (λq=>Addr.add q (Int.toNat t*10)) s.a))=true) /\
  (V.has (Option.map (λq=>Addr.add q 5) (Option.map (λq=>Addr.add q (Int.toNat t*10)) s.a)) y.place.val.cells.toList/\Option.isSome (Option.map (λq=>Addr.add q 5) (Option.map (λq=>Addr.add q (Int.toNat t*10)) s.a))=true):=by
 obtain⟨g,x,⟨y,rfl,hy⟩,_,hh,hs⟩:=n00.get h h0 hk;exact⟨g,y,hy,hh,hs,⟨J0t hh (I0m y).1,by rw[Gt]; exact hs⟩,J0t hh (I0m y).2,by rw[Gt]; exact hs⟩
def Tk.szle(k:Tk)(S:Nat):Prop:=k.time.sz<=S/\k.place.sz<=S
def i09(l:List Tk)(i:Nat):Option Tk:=if i=0 then none else l[i-1]?
theorem N0c(l:List Tk)(i:Nat):i09 l (i+1)=l[i]?:=by unfold i09; rw[if_neg (by omega),Cf]
theorem N0h{l:List Tk}{i:Nat}{k:Tk}(h:l[i]?=some k):l.drop i=k::l.drop (i+1):=by
 obtain⟨hi,e⟩:=List.getElem?_eq_some_iff.1 h;rw[<-e]; exact Ep hi
theorem e0g{t:Cq}{l:List Tk}:∀i,i<=l.length->(∀k∈l.take i,¬0<=k.time.cmp t)->p08 t none l=p08 t (i09 l i) (l.drop i)
 | 0,_,_=>rfl
 | i+1,hi,h=>by
   have hk:l[i]?=some l[i]:=Ae (by omega);have hc:¬0<=(l[i]).time.cmp t:=h _ (by rw[Ce,hk]; exact Gj _ (by simp));rw[e0g i (by omega) (λk hm=>h k (by rw[Ce]; simp[hm])),N0h hk,N0c,hk];show(if 0<=(l[i]).time.cmp t then _ else _)=_
   rw[if_neg hc]
theorem a0y{l:List Tk}(h:j0a l=0):1<=l.length/\l.length<=4096/\Asc none l:=by
 unfold j0a at h;split at h
 . simp at h
 exact⟨by omega,by omega,Y0x h⟩
theorem z0q{l:List Tk}(h:1<=l.length)(h2:l.length<=4096):j0a l=ascF none l:=by unfold j0a; rw[if_neg (by omega)]
def rq(r:Rat):Cq:=⟨r,0⟩
theorem D0f(a b:Rat):rq a+rq b=rq (a+b):=by refine Cq.ext' ?_ ?_<;>simp only[rq,P01,Q01]<;>grind
theorem W11(a b:Rat):rq a-rq b=rq (a-b):=by refine Cq.ext' ?_ ?_<;>simp only[rq,o02,u02]<;>grind
theorem J0m(a b:Rat):rq a*rq b=rq (a*b):=by refine Cq.ext' ?_ ?_<;>simp only[rq,F01,G01]<;>grind
theorem b0y(a b:Rat):(rq a).div (rq b)=rq (a / b):=by
 refine Cq.ext' ?_ ?_<;>simp only[rq,Cq.div,Cq.norm]
 . by_cases c:b=0
   . subst c; simp only[Rat.mul_zero,Rat.add_zero,Bm,Rat.inv_zero]
   grind
 have:0*b-a*0=0:=by grind
 rw[this,Bm,Rat.zero_mul]
theorem P0v(a b r:Rat):J0a (rq a) (rq b) (rq r)=rq (a+r*(b-a)):=by
 unfold J0a; simp only[W11,J0m,D0f]
theorem T12(x a b:Rat):z0e (rq x) (rq a) (rq b)=rq ((x-a) / (b-a)):=by
 unfold z0e; simp only[W11,b0y]
theorem A0q(x y:Rat):(rq x).cmp (rq y)=cmpR x y:=e0f rfl rfl
def strT(l:List Tk):List Tk:=l.map λk=>⟨k.time,Cq.zero⟩
def natQ(k:Nat):Cq:=⟨((k:Int):Rat),0⟩
def X0g(l s:List Tk)(a d:Cq)(n:Int):Int :=
 if j0a l=0 then(if j0a (strT s)=0 then(if a.im=0/\d.im=0/\d≠Cq.zero then(if 1<=n/\n<=64 then 0 else 4)else 1)else j0a (strT s))else j0a l
def x0f(l s:List Tk)(a d:Cq)(k:Nat):Option Cq:=(t0b (a+d*natQ k) l).bind λt=>p08 t none s
def D0s(l s:List Tk)(a d:Cq)(k:Nat):Cq:=(x0f l s a d k).getD Cq.zero
def O0c(l s:List Tk)(a d:Cq)(n:Nat):List Int:=((List.range n).filter λk=>(x0f l s a d k).isNone).map λk:Nat=>(k:Int)
theorem K0m(l s:List Tk)(a d:Cq)(n:Nat):O0c l s a d (n+1)=if(x0f l s a d n).isNone=true then O0c l s a d n++[(n:Int)]else O0c l s a d n:=by
 unfold O0c;rw[Cz,List.filter_append,Er];split
 . rename_i h; simp[h]
 rename_i h; simp[h]
theorem c0y(l s:List Tk)(a d:Cq)(n:Nat):(O0c l s a d n).length<=n:=by
 unfold O0c;rw[Bt];have:=List.length_filter_le (λk=>(x0f l s a d k).isNone) (List.range n);rw[List.length_range]at this;exact this
def intC(_:View)(x:List Value)(n:Int):Prop:=x=[.int .i64 n]
def flyT(w:Rat)(k:Nat):Rat:=((k:Int):Rat)*w
def flyL(s u:Rat):List Tk:=[⟨rq 0,rq s⟩,⟨rq 4000000,rq (s+u*4000000)⟩]
def flyS(w:Rat)(f:Nat->Cq):List Tk:=[⟨rq (flyT w 0),f 0⟩,⟨rq (flyT w 1),f 1⟩,⟨rq (flyT w 2),f 2⟩,⟨rq (flyT w 3),f 3⟩]
theorem U12(w:Rat):flyT w 0=0:=by unfold flyT; show(0:Rat)*w=0; grind
theorem E10(w:Rat):flyT w 1=w:=by unfold flyT; show(1:Rat)*w=w; grind
theorem F10(w:Rat):flyT w 2=2*w:=rfl
theorem N14(w:Rat):flyT w 3=3*w:=rfl
theorem O0h{last:Option Rat}{k:Tk}{l:List Tk}(hr:k.real=true)(h:∀r,last=some r->r<k.time.re)(hl:ascF (some k.time.re) l=0):ascF last (k::l)=0:=by
 unfold ascF;rw[if_neg (by rw[hr]; simp)];cases last with
 | none=>exact hl
 | some r =>
   have:=h r rfl;simp only;rw[if_neg (by grind)]; exact hl
theorem d0y(a b:Rat):(Tk.mk (rq a) (rq b)).real=true:=by unfold Tk.real; simp[rq]
theorem n0o(a:Rat):(Tk.mk (rq a) Cq.zero).real=true:=by unfold Tk.real; simp[rq,Cq.zero]
theorem G10(s u:Rat):j0a (flyL s u)=0:=by
 unfold j0a flyL;rw[if_neg (by simp)];exact O0h (d0y _ _) (λr h=>by simp at h) (O0h (d0y _ _) (λr h=>by obtain rfl:=Option.some.inj h; show(0:Rat)<4000000; decide) rfl)
theorem W12{w:Rat}(hw:0<w)(f:Nat->Cq):j0a (strT (flyS w f))=0:=by
 unfold j0a strT flyS;rw[if_neg (by simp)];refine O0h (n0o _) (λr h=>by simp at h) (O0h (n0o _) (λr h => ?_) (O0h (n0o _) (λr h => ?_) (O0h (n0o _) (λr h => ?_) rfl)))
 all_goals obtain rfl:=Option.some.inj h
 . show flyT w 0<flyT w 1;rw[U12,E10]; exact hw
 . show flyT w 1<flyT w 2;rw[E10,F10]; grind
 show flyT w 2<flyT w 3;rw[F10,N14]; grind
theorem wp_skip{t x:Rat}{v:Cq}{o:Option Tk}{l:List Tk}(h:x<t):p08 (rq t) o (⟨rq x,v⟩::l)=p08 (rq t) (some ⟨rq x,v⟩) l:=by
 conv=>lhs; unfold p08
 rw[if_neg];show ¬0<=(rq x).cmp (rq t);rw[A0q,Z0x]; grind
theorem wp_hit{t:Rat}{v:Cq}{o:Option Tk}{l:List Tk}:p08 (rq t) o (⟨rq t,v⟩::l)=some v:=by
 conv=>lhs; unfold p08
 rw[if_pos,if_pos rfl];show 0<=(rq t).cmp (rq t);rw[A0q,Z0x]; grind
theorem e0y{w:Rat}(hw:0<w)(f:Nat->Cq){k:Nat}(hk:k<4):p08 (rq (flyT w k)) none (flyS w f)=some (f k):=by
 have h01:flyT w 0<flyT w 1:=by rw[U12,E10]; exact hw
 have h12:flyT w 1<flyT w 2:=by rw[E10,F10]; grind
 have h23:flyT w 2<flyT w 3:=by rw[F10,N14]; grind
 have h02:flyT w 0<flyT w 2:=by grind
 have h03:flyT w 0<flyT w 3:=by grind
 have h13:flyT w 1<flyT w 3:=by grind
 unfold flyS;have hc:k=0\/k=1\/k=2\/k=3:=by omega
 rcases hc with rfl|rfl|rfl|rfl
 . rw[wp_hit]
 . rw[wp_skip h01,wp_hit]
 . rw[wp_skip h02,wp_skip h12,wp_hit]
 rw[wp_skip h03,wp_skip h13,wp_skip h23,wp_hit]
theorem E0s{a b c:Rat}(hb:b≠0)(h:a=c*b):a / b=c:=by
 rw[h,Bm,Rat.mul_assoc,Rat.mul_inv_cancel _ hb]; grind
theorem X12{a b:Rat}(h:a≠b):rq a≠rq b:=λe=>h (Ck Cq.re e)
theorem f0y{s u w:Rat}(hu:u*w=1)(h3:3<=u*4000000){k:Nat}(hk:k<4):t0b (rq (s+((k:Int):Rat))) (flyL s u)=some (rq (flyT w k)):=by
 have u0:0<u:=by grind
 show(if rq s=rq (s+((k:Int):Rat))then some (rq 0)else M0c (rq (s+((k:Int):Rat))) ⟨rq 0,rq s⟩ [⟨rq 4000000,rq (s+u*4000000)⟩])=_
 by_cases c:k=0
 . subst c;rw[if_pos]
   . rw[U12]
   show rq s=rq (s+0);congr 1; grind
 have hk1:(1:Rat)<=((k:Int):Rat):=by
   have:(1:Int)<=(k:Int):=by omega
   exact_mod_cast this
 have hk3:((k:Int):Rat)<=3:=by
  have:(k:Int)<=3:=by omega
  exact_mod_cast this
 unfold flyT;generalize ((k:Int):Rat)=x at *;rw[if_neg (X12 (a:=s) (b:=s+x) (by grind))];unfold M0c;rw[if_neg]
 . dsimp only;rw[T12,P0v];congr 2;have e:(s+x-s) / (s+u*4000000-s)*(4000000-0)=x*w:=by
    have hb:s+u*4000000-s≠0:=by grind
    have h1:(s+x-s) / (s+u*4000000-s)=x*w / 4000000:=by
     refine E0s hb ?_;rw[Bm];grind
    rw[h1,Bm];grind
   rw[e]; grind
 show ¬(0<(rq s).cmp (rq (s+x))*(rq (s+u*4000000)).cmp (rq (s+x))\/rq s=rq (s+u*4000000));rw[A0q,A0q];have v1:=K0a s (s+x);have v2:=K0a (s+u*4000000) (s+x);rintro(g|g)
 . rcases v1 with⟨q1,q2⟩|⟨q1,q2⟩|⟨q1,q2⟩
   . rw[q2]at g;rcases v2 with⟨p1,p2⟩|⟨p1,p2⟩|⟨p1,p2⟩
     . grind
     . rw[p2]at g; simp at g
     rw[p2]at g; simp at g
   . grind
   grind
 exact X12 (a:=s) (b:=s+u*4000000) (by grind) g
theorem B0q{s u w:Rat}(hu:u*w=1)(hw:0<w)(h3:3<=u*4000000)(f:Nat->Cq){k:Nat}(hk:k<4):x0f (flyL s u) (flyS w f) (rq s) (rq 1) k=some (f k):=by
 unfold x0f;have e:rq s+rq 1*natQ k=rq (s+((k:Int):Rat)):=by
  unfold natQ rq;refine Cq.ext' ?_ ?_
  . simp only[P01,F01]; grind
  simp only[Q01,G01]; grind
 rw[e,f0y hu h3 hk];exact e0y hw f hk
theorem H10{s u w:Rat}(hu:u*w=1)(hw:0<w)(h3:3<=u*4000000)(f:Nat->Cq) :
 X0g (flyL s u) (flyS w f) (rq s) (rq 1) 4=0/\rowL 4 (D0s (flyL s u) (flyS w f) (rq s) (rq 1))=rowL 4 f/\O0c (flyL s u) (flyS w f) (rq s) (rq 1) 4=[]:=by
 refine⟨?_,?_,?_⟩
 . have h1:rq 1≠Cq.zero:=λe=>absurd (Ck Cq.re e) (by decide:(1:Rat)≠0)
   unfold X0g;rw[if_pos (G10 s u),if_pos (W12 hw f),if_pos ⟨rfl,rfl,h1⟩,if_pos (by decide)]
 . unfold rowL;refine Ch λk hk => ?_;unfold D0s;rw[B0q hu hw h3 f (by simpa using hk)]; rfl
 unfold O0c;rw[List.map_eq_nil_iff,List.filter_eq_nil_iff];intro k hk;rw[B0q hu hw h3 f (by simpa using hk)]; simp
abbrev Ha:=@j04.of_block
abbrev Hb:=@Cq.ext'
abbrev Hc9:=@Rep.ofInt
abbrev Hd:=@f01.one
abbrev He:=@n00.le
abbrev Hf:=@n00.get
abbrev Hg:=@G02.nil
abbrev Hh:=@numC.le
abbrev Hi:=@c01.le
abbrev Hj:=@boxC.le
