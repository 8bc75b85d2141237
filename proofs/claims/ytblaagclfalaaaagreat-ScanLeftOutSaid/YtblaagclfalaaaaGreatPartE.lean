/- Part. -/
import Derived.Test.YtblaagclfalaaaaGreatPartD
import Derived.Laws.StructEq
namespace Go.Proofs.YtblaagclfalaaaaGreat
open Go Go.Vc Go.Proofs
open Go.Proofs.Tryz (prog)
open Go.IntKind (i64 u64 u32 u8)
def bitB(p:Int)(t:Nat):Bool:=((IntKind.u16.wrap (BitVec.toNat ((BitVec.ofInt IntKind.u16.bits (Int.fdiv p (2^(min (Int.toNat ((t:Nat):Int)) (IntKind.bits .u16))))) &&& (BitVec.ofInt IntKind.u16.bits 1)))):Int)==1
theorem q0s{V:View}{g:s00}{rows:List (List Cq)}{p:Int}(h:X00 5 numC V g.rows rows)(n1:1<=rows.length)(n2:rows.length<=64)(w1:1<=S00 rows)(w2:S00 rows<=64) :
 a00 prog H0d #[g.val,.int .u16 p] V λv V'=>∃k:s00,v=k.val/\X00 1 Go.Vc.boolC V' k.rows (matL rows.length (S00 rows) λi k=>bitB p (i*S00 rows+k)):=by
 obtain⟨R,eR⟩:∃R,R=rows.length:=⟨_,rfl⟩
 obtain⟨C,eC⟩:∃C,C=S00 rows:=⟨_,rfl⟩
 rw[<-eR]at n1 n2 ⊢
 rw[<-eC]at w1 w2 ⊢
 let K:Nat->Nat->Bool:=λi k=>bitB p (i*C+k)
 refine K0c g p V _
  (λ_ x V'=>∃t:Nat,x.t21=t/\t<=R/\x.o18.length=R/\E03 1 Go.Vc.boolC x.o0 V' x.o18 R (λi=>if i<t then rowL C (K i)else [])) (λ_ x _=>R-x.t21.toNat)
  (λc x V'=>∃t k:Nat,c.t8=t/\c.t21=t/\t<R/\x.t25=k/\k<=C/\x.o18.length=R/\E03 1 Go.Vc.boolC x.o0 V' x.o18 R (λi=>if i<t then rowL C (K i)else if i=t then rowL k (K t)else [])) (λ_ x _=>C-x.t25.toNat) ?_
 refine(u02 h).mono λv V1 l1 hv=>⟨_,_,hv,?_⟩
 rw[<-eR,<-eC,Int.toNat_natCast]
 refine⟨⟨by omega,by omega,by omega,by omega⟩,⟨0,rfl,by omega,by simp,?_⟩,?_⟩
 . rw[W0p]; exact(D0d V1 R).congr λi _=>by rw[if_neg (by omega)]
 rintro⟨t21,o0,o4,o18⟩ V2 l2 ⟨t,et,ht,hol,hR⟩
 dsimp only at et hol hR ⊢
 subst et
 refine⟨λhlt=>⟨⟨t,0,rfl,rfl,by have:=of_decide_eq_true hlt; omega,rfl,by omega,hol,hR.congr λi hi => ?_⟩,?_⟩,λhge => ?_⟩
 . by_cases e:i<t
   . rw[if_pos e,if_pos e]
   . rw[if_neg e,if_neg e]
     split<;>rfl
 . rintro⟨t25,o0',o18'⟩ V3 l3 ⟨t',k,et,_,htR,ek,hk,hol',hR'⟩
   dsimp only at et ek hol' hR' ⊢
   obtain rfl:t'=t:=by omega
   subst ek
   refine⟨λhlt2 => ?_,λhge2 => ?_⟩
   . have hkC:k<C:=by have:=of_decide_eq_true hlt2; omega
     have hb:t'*C<=64*64:=Nat.mul_le_mul (by omega) w2
     have ew:i64.wrap ((i64.wrap ((t':Int)*(C:Int)))+(k:Int))=((t'*C+k:Nat):Int):=by
      rw[<-Int.natCast_mul,i64w (n:=((t'*C:Nat):Int)) (by omega) (by omega),<-Int.natCast_add,i64w (by omega) (by omega)]
     obtain⟨s3,e3,q1,q2,q3,⟨o3,q4,q5,q6⟩,q7⟩:=hR'.row (i:=t') htR
     rw[if_neg (by omega),if_pos rfl]at q1 q6
     rw[k00]at q1
     rw[ew]
     refine⟨⟨by omega,by omega⟩,s3,by rw[Int.toNat_natCast,Nat.mul_one,Nat.zero_add]; exact e3,by omega,λb1 V4 l4 _ hb1 => ?_⟩
     have hnew:V4.has (some (Addr.mk b1 0 none)) [.bool (K t' k)]:=P04 (cs:=[.bool (K t' k)]) (j:=0) hb1 (λi v hv=>by rw[Nat.zero_add]; exact hv) rfl
     refine⟨o3,_,⟨q2,q3⟩,A0c l4 q4,q5,.inr hnew,rfl,oneL (V:=V4) (b:=K t' k) rfl,by unfold maxLen; omega,by omega,λ_ h2=>q7 1 (by omega) h2,λa1 c1 m1 ha=>⟨⟨by omega,by omega⟩,by rw[hol',Int.toNat_natCast]; omega,?_⟩⟩
     have:=(hR'.le Go.Vc.boolC.le l4).app (i:=t') htR e3 (z:=K t' k) rfl rfl (o':=o3) (by rw[if_neg (by omega),if_pos rfl]; exact q6.imp (Go.Vc.boolC.le l4)) ha
     rw[i64w (by omega) (by omega)]
     refine⟨⟨t',k+1,rfl,rfl,htR,by omega,by omega,by simp[hol'],?_⟩,by omega⟩
     have e1:(0+Int.toNat (t':Int)*1)=t':=by omega
     rw[e1]
     refine this.congr λi hi => ?_
     by_cases e:i=t'
     . subst e
       simp only[if_true,Nat.lt_irrefl,if_false]
       exact m0a _ _
     . simp only[if_neg e]
   . have e:k=C:=by have:=of_decide_eq_false hge2; omega
     subst e
     rw[i64w (by omega) (by omega)]
     refine⟨⟨t'+1,by omega,by omega,hol',hR'.congr λi hi => ?_⟩,by omega⟩
     by_cases e:i<t'
     . rw[if_pos e,if_pos (by omega)]
     . rw[if_neg e]
       by_cases e2:i=t'
       . subst e2; rw[if_pos rfl,if_pos (by omega)]
       . rw[if_neg e2,if_neg (by omega)]
 . have e:t=R:=by have:=of_decide_eq_false hge; omega
   subst e
   refine⟨by decide,λV5 l5 m5 b4 V6 l6 hb4 => ?_⟩
   have hR2:E03 1 Go.Vc.boolC o0 V2 o18 t (λi=>rowL C (K i)):=hR.congr λi hi=>by rw[if_pos hi]
   have hG:X00 1 Go.Vc.boolC V6 ⟨some (Addr.mk b4 0 none),t,t⟩ (matL t C K):=hR2.knownL Go.Vc.boolC.le hol (View.le_trans l5 l6) (λb cs g=>l6 _ _ (m5 _ _ g)) hb4
   refine(I0f hG).mono λv V7 l7 ⟨r,hv,hr⟩=>⟨r,_,hv,r,rfl,?_⟩
   rw[f0d _ n1 n2 w1 w2]at hr
   exact hr
def twoQ:Cq:=⟨((2:Int):Rat),0⟩
def wtC(rs:List RatV)(i k:Nat):Cq:=if rs=[]then Cq.one else if ratQ (rnth rs ((i+5*k)%rs.length))=Cq.zero then twoQ else ratQ (rnth rs ((i+5*k)%rs.length))
theorem p0v:Cq.one≠Cq.zero:=by decide
theorem x0n{k:Int}(h0:0<=k)(h:k<=255):(⟨(k:Rat),0⟩:Cq).sz<=64:=by
 refine(Rep.ofInt k).sz (k:=64) ?_ (by decide) (by decide)
 exact W03 (by omega)
theorem q0v:(⟨((1:Int):Rat),0⟩:Cq)=Cq.one:=rfl
theorem y0w{rs:List RatV}(h:∀r∈rs,ratI r)(i k:Nat):(wtC rs i k).sz<=64:=by
 unfold wtC
 split
 . exact x0n (k:=1) (by decide) (by decide)
 . rename_i hne
   have:0<rs.length:=by cases rs with
    | nil=>exact absurd rfl hne
    | cons=>simp
   split
   . exact x0n (k:=2) (by decide) (by decide)
   . exact L0h (B0k h (Nat.mod_lt _ this))
set_option maxHeartbeats 1000000 in
theorem e0m{V:View}{g:s00}{s:Sl}{rows:List (List Cq)}{rs:List RatV}(h:X00 5 numC V g.rows rows)(hr:Rect rows)(n1:1<=rows.length)(n2:rows.length<=64)(w1:1<=S00 rows)(w2:S00 rows<=64)(hs:m0g V s rs)(hi:∀r∈rs,ratI r) :
 a00 prog N0b #[g.val,s.v] V λv V'=>∃k:s00,v=k.val/\X00 5 numC V' k.rows (matL rows.length (S00 rows) (wtC rs)):=by
 have hsl:s.len=rs.length:=hs.len
 obtain⟨R,eR⟩:∃R,R=rows.length:=⟨_,rfl⟩
 obtain⟨C,eC⟩:∃C,C=S00 rows:=⟨_,rfl⟩
 obtain⟨A,eA⟩:∃A,A=atG Cq.zero rows:=⟨_,rfl⟩
 have hcs:=T0d (m:=λ_=>none) h hr n1 n2 w1 w2
 rw[<-eR,<-eC,<-eA]at hcs
 rw[<-eR]at n1 n2 ⊢
 rw[<-eC]at w1 w2 ⊢
 refine z0b g s V _
  (λc x V'=>∃t:Nat,c.t5.len=R/\x.t15=t/\t<=R/\MatX 5 numC x.o0 V' c.t5 R C (λi k=>if i<t then wtC rs i k else A i k) (λ_=>True)) (λ_ x _=>R-x.t15.toNat)
  (λc x V'=>∃t k:Nat,c.t6=t/\c.t15=t/\t<R/\x.t23=k/\k<=C/\MatX 5 numC x.o0 V' c.t5 R C (λi j=>if i<t\/(i=t/\j<k)then wtC rs i j else A i j) (λ_=>True)) (λ_ x _=>C-x.t23.toNat) ?_
 refine hcs.mono λv m1 V1 l1 _ ⟨r1,hv,hX,_⟩=>⟨r1,hv,⟨0,hX.len,rfl,by omega,(hX.congr λi k _ _=>by rw[if_neg (by omega)]).weaken λ_ _=>trivial⟩,?_⟩
 have er:=hX.len
 rw[er]
 rintro⟨t15,o0,o4⟩ V2 l2 ⟨t,_,et,ht,hM⟩
 dsimp only at et hM ⊢
 subst et
 refine⟨λhlt => ?_,λhge => ?_⟩
 . have hk:t<R:=by have:=of_decide_eq_true hlt; omega
   obtain⟨ha,s3,hs3,hl3,_⟩:=hM.row hk
   refine⟨⟨by omega,by omega,ha⟩,s3,.inl (by rw[Int.toNat_natCast]; exact hs3),⟨t,0,rfl,rfl,hk,rfl,by omega,hM.congr λi k _ _ => ?_⟩,?_⟩
   . by_cases c:i<t
     . rw[if_pos c,if_pos (.inl c)]
     . rw[if_neg c,if_neg (by omega)]
   rw[hl3]
   rintro⟨t23,o0'⟩ V3 l3 ⟨t',k,et,_,htR,ek,hkC,hM'⟩
   dsimp only at et ek hM' ⊢
   obtain rfl:t'=t:=by omega
   subst ek
   refine⟨λhlt2 => ?_,λhge2 => ?_⟩
   . have hk2:k<C:=by have:=of_decide_eq_true hlt2; omega
     obtain⟨ha',s7,hs7,hl7,ha7,_⟩:=hM'.row htR
     have fin:∀ {V':View} {y:NumV},View.le V3 V'->l01 V' y (wtC rs t' k)->∃(b c:Nat) (l:List Value),Option.map (λq=>Addr.add q (Int.toNat (k:Int)*5)) s7.a=some (Addr.mk b c none)/\o0' b=some l.toArray/\c+5<=l.length /\
      MatX 5 numC (j00 o0' b (setL l c y.val.cells.toList).toArray) V' r1 R C (λi j=>if i<t'\/(i=t'/\j<k+1)then wtC rs i j else A i j) (λ_=>True):=λ{V' y} hle hy=>by
      obtain⟨b,c,l,_,q1,q2,q3,q4⟩:=(hM'.le numC.le hle).put htR hk2 (y:=y.val.cells.toList) (z:=wtC rs t' k) rfl ⟨y,rfl,hy⟩ hs7
      rw[Int.toNat_natCast]
      refine⟨b,c,l,q1,q2,q3,q4.congr λi j _ _ => ?_⟩
      by_cases c1:i=t'/\j=k
      . obtain⟨rfl,rfl⟩:=c1
        rw[if_pos ⟨rfl,rfl⟩,if_pos (by omega)]
      . rw[if_neg c1]
        by_cases c2:i<t'\/(i=t'/\j<k)
        . rw[if_pos c2,if_pos (by omega)]
        . rw[if_neg c2,if_neg (by omega)]
     have e1:i64.wrap ((t':Int)+(i64.wrap (5*(k:Int))))=((t'+5*k:Nat):Int):=by rw[i64w (n:=5*(k:Int)) (by omega) (by omega),i64w (by omega) (by omega)]; omega
     rw[e1,i64w (n:=(k:Int)+1) (by omega) (by omega)]
     have inx:∀V',View.le V3 V'->True:=λ_ _=>trivial
     have sl7:s7.len=C:=hl7
     have ld7:∀V',s07 o0' V' (Option.map (λq=>Addr.add q (Int.toNat (t':Int)*1)) r1.a) s7.v:=λV' => .inl (by rw[Int.toNat_natCast]; exact hs7)
     refine(Y05 (n:=1) (by decide) (by decide)).mono λv V4 l4 ⟨r2,hv,h2⟩=>⟨r2,hv,λhp => ?_,λhp => ?_⟩
     . have hp:0<rs.length:=by have:=of_decide_eq_true hp; omega
       have hne:rs≠[]:=λe=>by rw[e]at hp; simp at hp
       have hlt3:(t'+5*k)%rs.length<rs.length:=Nat.mod_lt _ hp
       rw[hsl,<-Int.ofNat_tmod]
       obtain⟨d1,x,hx,_,hh,hss⟩:=y00.get (hs.le (View.le_trans l1 (View.le_trans l2 (View.le_trans l3 l4)))) (t:=(((t'+5*k)%rs.length:Nat):Int)) (by omega) (z:=rnth rs ((t'+5*k)%rs.length)) (by rw[Int.toNat_natCast]; unfold rnth; simp[List.getD,hlt3])
       rw[hsl]at d1
       have hx:x=(rnth rs ((t'+5*k)%rs.length)).val.cells.toList:=hx
       subst hx
       have hok:=B0k hi hlt3
       refine⟨by omega,d1,_,.inr hh,hss,(n0g hok).mono λv V5 l5 ⟨y,hv,hy⟩=>⟨y,hv,(y07 hy (Nat.le_trans (L0h hok) (by omega))).mono λv V6 l6 hv=>⟨_,hv,λc => ?_,λc => ?_⟩⟩⟩
       . have c:ratQ (rnth rs ((t'+5*k)%rs.length))=Cq.zero:=by simpa using c
         refine(Y05 (n:=2) (by decide) (by decide)).mono λv V7 l7 ⟨r5,hv,h5⟩=>⟨r5,hv,⟨by omega,by omega,ha'⟩,s7,ld7 _,⟨by omega,by omega,ha7 (by omega)⟩,?_⟩
         have hy7:l01 V7 r5 (wtC rs t' k):=by unfold wtC; rw[if_neg hne,if_pos c]; exact h5
         obtain⟨b,c',l,q1,q2,q3,q4⟩:=fin (View.le_trans l4 (View.le_trans l5 (View.le_trans l6 l7))) hy7
         exact⟨b,c',l,q1,q2,q3,⟨t',k+1,rfl,rfl,htR,by omega,by omega,q4⟩,by omega⟩
       . have c:¬ratQ (rnth rs ((t'+5*k)%rs.length))=Cq.zero:=by simpa using c
         refine⟨⟨by omega,by omega,ha'⟩,s7,ld7 _,⟨by omega,by omega,ha7 (by omega)⟩,?_⟩
         have hy7:l01 V6 y (wtC rs t' k):=by unfold wtC; rw[if_neg hne,if_neg c]; exact hy.le l6
         obtain⟨b,c',l,q1,q2,q3,q4⟩:=fin (View.le_trans l4 (View.le_trans l5 l6)) hy7
         exact⟨b,c',l,q1,q2,q3,⟨t',k+1,rfl,rfl,htR,by omega,by omega,q4⟩,by omega⟩
     . have hp:rs=[]:=List.length_eq_zero_iff.1 (by have:=of_decide_eq_false hp; omega)
       refine(y07 h2 (Nat.le_trans (x0n (k:=1) (by decide) (by decide)) (by omega))).mono λv V8 l8 hv=>⟨_,hv,λc=>absurd c (by rw[q0v,decide_eq_true p0v]; simp),λ_ => ?_⟩
       refine⟨⟨by omega,by omega,ha'⟩,s7,ld7 _,⟨by omega,by omega,ha7 (by omega)⟩,?_⟩
       have hy7:l01 V8 r2 (wtC rs t' k):=by unfold wtC; rw[if_pos hp]; exact h2.le l8
       obtain⟨b,c',l,q1,q2,q3,q4⟩:=fin (View.le_trans l4 l8) hy7
       exact⟨b,c',l,q1,q2,q3,⟨t',k+1,rfl,rfl,htR,by omega,by omega,q4⟩,by omega⟩
   . have e:k=C:=by have:=of_decide_eq_false hge2; omega
     subst e
     rw[i64w (by omega) (by omega)]
     refine⟨⟨t'+1,rfl,by omega,by omega,hM'.congr λi j _ hj => ?_⟩,by omega⟩
     by_cases c:i<t'\/(i=t'/\j<k)
     . rw[if_pos c,if_pos (by omega)]
     . rw[if_neg c,if_neg (by omega)]
 . have e:t=R:=by have:=of_decide_eq_false hge; omega
   subst e
   refine⟨by decide,λV10 l10 m10 => ?_⟩
   have hG:X00 5 numC V10 r1 (matL t C (wtC rs)):=(hM.congr λi k hi _=>by rw[if_pos hi]).known (numC.le l10) m10
   refine(o07 hG).mono λv V11 l11 ⟨r,hv,hr⟩=>⟨r,_,hv,r,rfl,?_⟩
   rw[f0d _ n1 n2 w1 w2]at hr
   exact hr
theorem s0s{V:View}{g k:s00}{R C:Nat}{A B:Nat->Nat->Cq}(hg:X00 5 numC V g.rows (matL R C A))(hk:X00 5 numC V k.rows (matL R C B))(n1:1<=R)(n2:R<=64)(w1:1<=C)(w2:C<=64)
 (sA:∀i j,i<R->j<C->(A i j).sz<=2^40) (sB:∀i j,i<R->j<C->(B i j).sz<=2^40) :
 a00 prog I0d #[g.val,k.val] V λv _=>∃b:Bool,v = .bool b/\(b=true↔∀i j,i<R->j<C->A i j=B i j):=by
 have rA:=m08 (m:=C) A n1
 have rB:=m08 (m:=C) B n1
 have cA:=J04 (m:=C) A n1
 have cB:=J04 (m:=C) B n1
 have lA:(matL R C A).length=R:=w00 _ _ _
 have lB:(matL R C B).length=R:=w00 _ _ _
 refine L0c g k V _
  (λ_ x _=>∃t:Nat,x.t20=t/\t<=R/\∀i j,i<t->j<C->A i j=B i j) (λ_ x _=>R-x.t20.toNat)
  (λc x _=>∃t m:Nat,c.t20=t/\c.t7=t/\t<R/\x.t39=m/\m<=C/\(∀i j,i<t->j<C->A i j=B i j)/\∀j,j<m->A t j=B t j) (λ_ x _=>C-x.t39.toNat) ?_
 refine(n08 hg rA (by omega) (by omega) (by omega) (by omega)).mono λv V1 l1 ⟨r1,hv,h1⟩=>⟨r1,hv,?_⟩
 refine(n08 (X00.le numC.le l1 hk) rB (by omega) (by omega) (by omega) (by omega)).mono λv V2 l2 ⟨r2,hv,h2⟩=>⟨r2,hv,?_⟩
 have e1:r1.len=R:=by rw[h1.len,lA]
 have e2:r2.len=R:=by rw[h2.len,lB]
 rw[e1,e2]
 refine⟨λc=>absurd c (by simp),λ_=>⟨⟨0,rfl,by omega,λi j h=>absurd h (by omega)⟩,?_⟩⟩
 rintro⟨t20⟩ V3 l3 ⟨t,et,ht,hq⟩
 dsimp only at et ⊢
 subst et
 refine⟨λhlt => ?_,λhge => ?_⟩
 . have hkR:t<R:=by have:=of_decide_eq_true hlt; omega
   have row1:∀ {V':View},View.le V2 V'->∃s:Sl,((0:Int)<=(t:Int)/\(t:Int)<(R:Nat)/\Option.isSome r1.a=true)/\V'.load (Option.map (λq=>Addr.add q (Int.toNat (t:Int)*1)) r1.a)=some s.v/\y00 5 numC V' s (rowL C (A t)):=λ{V'} hle=>by
    obtain⟨g1,s,g2,g3⟩:=(X00.le numC.le (View.le_trans l2 hle) h1).row (t:=(t:Int)) (by omega) (by rw[Int.toNat_natCast]; exact Q04 hkR A)
    rw[e1]at g1
    exact⟨s,g1,g2,g3⟩
   have row2:∀ {V':View},View.le V2 V'->∃s:Sl,((0:Int)<=(t:Int)/\(t:Int)<(R:Nat)/\Option.isSome r2.a=true)/\V'.load (Option.map (λq=>Addr.add q (Int.toNat (t:Int)*1)) r2.a)=some s.v/\y00 5 numC V' s (rowL C (B t)):=λ{V'} hle=>by
    obtain⟨g1,s,g2,g3⟩:=(X00.le numC.le hle h2).row (t:=(t:Int)) (by omega) (by rw[Int.toNat_natCast]; exact Q04 hkR B)
    rw[e2]at g1
    exact⟨s,g1,g2,g3⟩
   obtain⟨s3,a1,a2,a3⟩:=row1 l3
   obtain⟨s4,b1,b2,b3⟩:=row2 l3
   have l3':s3.len=C:=by rw[a3.len,k00]
   have l4':s4.len=C:=by rw[b3.len,k00]
   refine⟨a1,s3,a2,b1,s4,b2,λc=>absurd c (by rw[l3',l4']; simp),λ_=>⟨a1,s3,a2,⟨t,0,rfl,rfl,hkR,rfl,by omega,hq,λj h=>absurd h (by omega)⟩,?_⟩⟩
   rw[l3']
   rintro⟨t39⟩ V4 l4 ⟨t',m,et,_,_,em,hm,_,hrow⟩
   dsimp only at et em ⊢
   obtain rfl:t'=t:=by omega
   subst em
   refine⟨λhlt2 => ?_,λhge2 => ?_⟩
   . have hm2:m<C:=by have:=of_decide_eq_true hlt2; omega
     obtain⟨s8,c1,c2,c3⟩:=row1 (View.le_trans l3 l4)
     obtain⟨s10,d1,d2,d3⟩:=row2 (View.le_trans l3 l4)
     have l8:s8.len=C:=by rw[c3.len,k00]
     have l10:s10.len=C:=by rw[d3.len,k00]
     obtain⟨f1,x,⟨x9,rfl,n9⟩,_,f2,f3⟩:=y00.get c3 (t:=(m:Int)) (by omega) (by rw[Int.toNat_natCast]; exact n03 hm2 (A t'))
     obtain⟨g1,y,⟨x11,rfl,n11⟩,_,g2,g3⟩:=y00.get d3 (t:=(m:Int)) (by omega) (by rw[Int.toNat_natCast]; exact n03 hm2 (B t'))
     refine⟨c1,s8,c2,f1,x9,f2,f3,d1,s10,d2,g1,x11,g2,g3,(L09 n9 n11 (sA t' m hkR hm2) (sB t' m hkR hm2)).mono λv V5 l5 hv=>⟨_,hv,λc => ?_,λc => ?_⟩⟩
     . have c:¬A t' m=B t' m:=by simpa using c
       exact⟨false,rfl,λh=>absurd h (by simp),λh=>absurd (h t' m hkR hm2) c⟩
     . have c:A t' m=B t' m:=by simpa using c
       rw[i64w (by omega) (by omega)]
       refine⟨⟨t',m+1,rfl,rfl,hkR,by omega,by omega,hq,λj hj => ?_⟩,by omega⟩
       by_cases e:j=m
       . subst e; exact c
       . exact hrow j (by omega)
   . have e:m=C:=by have:=of_decide_eq_false hge2; omega
     subst e
     rw[i64w (by omega) (by omega)]
     refine⟨⟨t'+1,by omega,by omega,λi j hi hj => ?_⟩,by omega⟩
     by_cases e:i=t'
     . subst e; exact hrow j hj
     . exact hq i j (by omega) hj
 . have e:t=R:=by have:=of_decide_eq_false hge; omega
   subst e
   exact⟨true,rfl,λ_=>hq,λ_=>rfl⟩
structure Dims (n m:Nat):Prop where
 hn:n<=2
 hm:m<=2
theorem Dims.n1{n m:Nat}(_:Dims n m):1<=2^n:=Nat.pow_pos (by omega)
theorem Dims.m1{n m:Nat}(_:Dims n m):1<=2^m:=Nat.pow_pos (by omega)
theorem Dims.n4{n m:Nat}(h:Dims n m):2^n<=4:=Nat.le_trans (Nat.pow_le_pow_right (by omega) h.hn:2^n<=2^2) (by decide)
theorem Dims.m4{n m:Nat}(h:Dims n m):2^m<=4:=Nat.le_trans (Nat.pow_le_pow_right (by omega) h.hm:2^m<=2^2) (by decide)
theorem f0f{m:Nat}(hm:m<=2):okSz 4 (w02 m):=okSz.of λi hi=>s0o hm i (by rw[j0c hm]at hi; exact hi)
theorem t0s{n m:Nat}(h:Dims n m)(A:Nat->Nat->Cq):e05 (matL (2^n) (2^m) A) (w02 m) (w02 n)=true:=by
 unfold e05
 rw[j0c h.hm,j0c h.hn,J04 A h.n1,w00,decide_eq_true rfl,decide_eq_true rfl,q0k m (by have:=h.hm; simp; omega),q0k n (by have:=h.hn; simp; omega)]; rfl
theorem f0b{α:Type}{n m i k:Nat}(d:α)(A:Nat->Nat->α)(hi:i<n)(hk:k<m):atG d (matL n m A) i k=A i k:=by
 unfold atG
 have e1:(matL n m A).getD i []=rowL m (A i):=by rw[List.getD_eq_getElem?_getD,Q04 hi]; rfl
 rw[e1,List.getD_eq_getElem?_getD,n03 hk]; rfl
def ledA(b:Bool)(n m:Nat)(K:Nat->Nat->Bool)(W A:Nat->Nat->Cq):Nat->Nat->Cq:=dft true n m (ledM K λi k=>chg b (dft false n m A i k) (W i k))
theorem s0v(b:Bool){n m:Nat}(h:Dims n m)(K:Nat->Nat->Bool)(W A:Nat->Nat->Cq) :
 ledF b (matL (2^n) (2^m) A) (w02 m) (w02 n) (matL (2^n) (2^m) W) (matL (2^n) (2^m) K)=matL (2^n) (2^m) (ledA b n m K W A):=by
 unfold ledF
 rw[w00,J04 A h.n1,d0f false A h.hn h.hm]
 have e:matL (2^n) (2^m) (ledC b (matL (2^n) (2^m) (dft false n m A)) (matL (2^n) (2^m) W) (matL (2^n) (2^m) K))=matL (2^n) (2^m) (ledM K λi k=>chg b (dft false n m A i k) (W i k)) :=
  z0d λi k hi hk=>by unfold ledC ledM; rw[f0b _ _ hi hk,f0b _ _ hi hk,f0b _ _ hi hk]
 rw[e,d0f true _ h.hn h.hm]; rfl
theorem y0n{b:Bool}{n m:Nat}{K:Nat->Nat->Bool}{W:Nat->Nat->Cq}(hb:∀i k,i<n->k<m->K i k=true->chE b (W i k)=0):p0i b (matL n m W) (matL n m K) m n 0=false:=by
 unfold p0i
 rw[List.range_zero,List.any_nil,Bool.or_false,List.any_eq_false]
 intro i hi
 have hi:i<n:=by simpa using hi
 rw[Bool.not_eq_true,List.any_eq_false]
 intro k hk
 have hk:k<m:=by simpa using hk
 unfold badC
 rw[f0b _ _ hi hk,f0b _ _ hi hk]
 cases e:K i k with
 | false=>simp
 | true=>rw[hb i k hi hk e]; simp
theorem U0t(b:Bool){V:View}{g wg kg:s00}{w v:Sl}{n m:Nat}(h:Dims n m){K:Nat->Nat->Bool}{W A:Nat->Nat->Cq}(S Z:Nat)(hg:X00 5 numC V g.rows (matL (2^n) (2^m) A))(hq:l02 V w (w02 m))(hv:l02 V v (w02 n))
 (hw:X00 5 numC V wg.rows (matL (2^n) (2^m) W)) (hk:X00 1 Go.Vc.boolC V kg.rows (matL (2^n) (2^m) K)) (s1:1<=S) (hS:S<=2^20) (sA:∀i k,i<2^n->k<2^m->(A i k).sz<=S) (sW:∀i k,i<2^n->k<2^m->(W i k).sz<=S)
 (hb:∀i k,i<2^n->k<2^m->K i k=true->chE b (W i k)=0) (z1:1<=Z) (hZ:Z<=2^26) (sC:∀i k,i<2^n->k<2^m->(ledM K (λi k=>chg b (dft false n m A i k) (W i k)) i k).sz<=Z) :
 a00 prog Z09 #[g.val,w.v,v.v,wg.val,kg.val,.func (.func (chf b)) #[] #[]] V λu V'=>∃r:s00,u = .tuple #[r.val,.int .i64 0]/\X00 5 numC V' r.rows (matL (2^n) (2^m) (ledA b n m K W A)):=by
 have p1:=h.n1; have p2:=h.n4; have p3:=h.m1; have p4:=h.m4
 have ok:=t0s h A
 have fit:I0h (matL (2^n) (2^m) A) (matL (2^n) (2^m) W) (matL (2^n) (2^m) K):=by
  unfold I0h
  simp only[w00,J04 A p1,J04 W p1,J04 K p1,and_self]
 have hE:ledE b (matL (2^n) (2^m) A) (w02 m) (w02 n) (matL (2^n) (2^m) W) (matL (2^n) (2^m) K)=0:=by
  unfold ledE
  rw[if_pos ⟨ok,fit⟩,w00,J04 A p1,y0n hb]; rfl
 refine(O0t b S 4 (64*(64*(S+4+2)+9+4+2)+9) Z hg (m08 A p1) hq hv hw (m08 W p1) hk (m08 K p1) (A0d sA) (f0f h.hm) (f0f h.hn) s1 (by decide) (Nat.le_refl _) (by omega) (A0d λi k hi hk=>by have:=sW i k hi hk; omega) (λi k hi hk => ?_) z1 (by omega)).mono λu V1 _ ⟨r,hu,hr⟩=>⟨r,?_,?_⟩
 . rw[w00]at hi
   rw[J04 A p1]at hk
   have e:ledC b (b09 false (matL (2^n) (2^m) A) (w02 m) (w02 n)) (matL (2^n) (2^m) W) (matL (2^n) (2^m) K) i k=ledM K (λi k=>chg b (dft false n m A i k) (W i k)) i k:=by
    rw[d0f false A h.hn h.hm]
    unfold ledC ledM; rw[f0b _ _ hi hk,f0b _ _ hi hk,f0b _ _ hi hk]
   rw[e]; exact sC i k hi hk
 . rw[hu,hE]
 . unfold ledR at hr
   rw[if_pos hE,s0v b h]at hr
   exact hr
theorem M0h{n w:Nat}(A:Nat->Nat->Cq)(hn:n<=32)(hw:w<=32):E0h (matL n w A)=true/\(0<n->o09 (matL n w A)=w)/\(n=0->o09 (matL n w A)=0):=by
 have hc:0<n->o09 (matL n w A)=w:=by
  intro h
  unfold o09 matL
  obtain⟨m,rfl⟩:∃m,n=m+1:=⟨n-1,by omega⟩
  rw[List.range_succ_eq_map]
  simp[k00]
 refine⟨?_,hc,λh=>by subst h; rfl⟩
 unfold E0h
 rcases Nat.eq_zero_or_pos n with h|h
 . subst h; rfl
 . rw[hc h,w00]
   have e:((matL n w A).any λrow=>decide (row.length≠w))=false:=by
    rw[List.any_eq_false]
    intro row hrow
    unfold matL at hrow
    obtain⟨i,_,rfl⟩:=List.mem_map.1 hrow
    simp[k00]
   rw[e]
   simp[hn,hw]
theorem z0w{V:View}{p:Sl}{n:Nat}{A:Nat->Nat->Cq}(h:X00 5 numC V p (matL n n A))(hn:n<=32):a00 prog Y07 #[p.v] V λv _=>v = .bool true:=by
 refine(e0d h (by rw[w00]; omega)).mono λv V1 _ hv => ?_
 obtain⟨h1,h2,h3⟩:=M0h A hn hn
 rw[hv,h1,w00]
 rcases Nat.eq_zero_or_pos n with e|e
 . rw[h3 e,e]; rfl
 . rw[h2 e]; simp
structure t0v (n:Nat) (Q:Cq->Prop) (qs:Nat->Nat->Cq->Prop) (qx:Nat->Cq->Prop):Prop where
 r0:∀j x,j<n->Q x->qs j 0 x
 r1:∀j i s a x,j<n->i<j->qs j i s->Q a->qx j x->qs j (i+1) (numO.sub s (numO.mul a x))
 r2:∀j s a,j<n->qs j j s->Q a->qx (j+1) (numO.div s a)
 r3:∀j x,j<n->qx j x->qx (j+1) x
 k1:∀x,Q x->okN x
 k2:∀j i s,j<n->i<=j->qs j i s->okN s
 k3:∀j x,j<=n->qx j x->okN x
theorem g0f{V:View}{p q:Sl}{n:Nat}{A:Nat->Nat->Cq}{b:Nat->Cq}(h:X00 5 numC V p (matL n n A))(hb:y00 5 numC V q (rowL n b))(hn:n<=32)
 (Q:Nat->Cq->Prop) (q1:∀c x,c<=n->Q c x->okN x) (q2:∀c x y z u,Q c x->Q c y->Q c z->Q c u->Q (c+1) (numO.sub x (numO.mul (numO.div y z) u))) (q3:∀c x,Q c x->Q (c+1) x)
 (hA:∀i j,i<n->j<n->Q 0 (A i j)) (hB:∀i,i<n->Q 0 (b i)) (qs:Nat->Nat->Cq->Prop) (qx:Nat->Cq->Prop) (hk:t0v n (Q n) qs qx) :
 a00 prog p09 #[p.v,q.v] V λv V'=>∃r:Sl,match (elim numO n (n+1) (u09 A n λ_ i=>b i)).2.2 with
  | none=>v = .tuple #[r.v,.int .i64 0]/\y00 5 numC V' r (rowL n (C0b numO Cq.zero (elim numO n (n+1) (u09 A n λ_ i=>b i)).1 n n))
  | some _=>v = .tuple #[r.v,.int .i64 6]/\r=⟨none,0,0⟩:=by
 have hpl:p.len=n:=by have:=h.len; rw[w00]at this; exact this
 have hql:q.len=n:=by have:=hb.len; rw[k00]at this; exact this
 let W:=u09 A n λ_ i=>b i
 let B:=(elim numO n (n+1) W).1
 have hWQ:∀i j,i<n->j<n+1->Q 0 (W i j):=by
  intro i j hi hj
  show Q 0 (if j<n then A i j else b i)
  split
  . exact hA i j hi (by assumption)
  . exact hB i hi
 have hBQ:∀i j,i<n->j<n+1->Q n (B i j):=w0h numO Q n (n+1) q2 q3 n 0 W 0 (by omega) (by omega) hWQ
 refine M0c p q V _ (λ_ _ _=>True)
  (λ_ x V'=>∃j:Nat,x.t10=(n:Int)-1-j/\j<=n/\S01 5 numC V' x.o37 (rowL n (C0b numO Cq.zero B n j))/\∀i,n-j<=i->i<n->qx j (C0b numO Cq.zero B n j i))
  (λ_ x _=>(x.t10+1).toNat)
  (λc x V'=>∃j i:Nat,c.t10=(n:Int)-1-j/\j<n/\x.t12=(n:Int)-j+i/\i<=j/\S01 5 numC V' x.o37 (rowL n (C0b numO Cq.zero B n j))/\(∀i,n-j<=i->i<n->qx j (C0b numO Cq.zero B n j i)) /\
    atN V' x.o11 (A0r numO B (C0b numO Cq.zero B n j) (n-(j+1)) n i)/\qs j i (A0r numO B (C0b numO Cq.zero B n j) (n-(j+1)) n i))
  (λ_ x _=>n-x.t12.toNat) ?_
 rw[hpl,hql]
 refine⟨(z0w h hn).mono λv V2 l2 hv=>⟨true,hv,λhf=>absurd hf (by simp),λ_=>⟨λhf=>absurd hf (by simp),λ_=>trivial⟩⟩,?_⟩
 rintro⟨u⟩ V1 l1 -
 intro b3 V5 l5 _ hb3
 have hmore:X00 5 numC V5 ⟨some (Addr.mk b3 0 none),1,1⟩ (matL 1 n λ_ i=>b i):=by
  have hb5:y00 5 numC V5 q (rowL n b):=hb.le (numC.le (View.le_trans l1 l5)) (View.le_trans l1 l5)
  refine y00.of_block (o:=[q.v]) (o':=[]) (b:=b3) (λ_=>by simpa using hb3) ?_ (by rw[w00]) (Nat.le_refl _) (λ_=>rfl)
  exact⟨[q.v],[],rfl,rfl,⟨q,rfl,hb5⟩,rfl⟩
 refine(j0e (h.le numC.le (View.le_trans l1 l5)) hmore (by omega) (by omega) (by omega)).mono λv m1 V6 l6 _ ⟨r2,hv,hM⟩=>⟨r2,hv,?_⟩
 refine(z0c Q hM (by omega) (by omega) q1 q2 q3 hWQ).mono λv m2 V7 l7 _ ⟨hv,hM2⟩=>⟨_,_,hv,by decide,λV8 l8 hpub => ?_⟩
 have hRB:X00 5 numC V8 r2 (matL n (n+1) B):=hM2.known (numC.le l8) hpub
 have hr2:r2.len=n:=by have:=hRB.len; rw[w00]at this; exact this
 cases hstop:(elim numO n (n+1) W).2.2 with
 | some c =>
   exact⟨λ_=>⟨⟨none,0,0⟩,rfl,rfl⟩,λhf=>absurd hf (by simp)⟩
 | none =>
   have hdiag:=F0f numO n (n+1) n 0 W 0 (by omega) (λi hi=>absurd hi (by omega)) hstop
   refine⟨λhf=>absurd hf (by simp),λ_ => ?_⟩
   refine⟨⟨by omega,by omega,by omega,by omega⟩,⟨0,by rw[i64w (by omega) (by omega)]; show(n:Int)-1=_; omega,by omega,?_,λi h1 h2=>by omega⟩,?_⟩
   . have:=S01.replicate (sz:=5) (P:=numC) (V:=V8) rfl (Q0w V8) n
     rw[Int.toNat_natCast]
     have e:rowL n (C0b numO Cq.zero B n 0)=List.replicate n Cq.zero:=y0d n Cq.zero
     rw[e]; exact this
   rintro⟨t10,o37⟩ V9 l9 ⟨j,e10,hj,hC,hx⟩
   dsimp only at e10 hC ⊢
   refine⟨λhge => ?_,λhlt => ?_⟩
   . have hjn:j<n:=by simp at hge; omega
     have ec:t10.toNat=n-(j+1):=by omega
     obtain⟨g1,s1,g2,g3⟩:=(hRB.le numC.le l9).row (t:=t10) (by omega) (row:=rowL (n+1) (B (n-(j+1)))) (by rw[ec]; exact Q04 (by omega) B)
     obtain⟨c1,x,hxx,hxl,hh,hs⟩:=y00.get g3 (t:=(n:Int)) (by omega) (z:=B (n-(j+1)) n) (by rw[Int.toNat_natCast]; exact n03 (by omega) _)
     obtain⟨y,ey,hy⟩:=elN hxx
     subst ey
     refine⟨g1,s1,g2,c1,y,hh,hs,⟨j,0,e10,hjn,by rw[i64w (by omega) (by omega)]; omega,by omega,hC,hx,hy,hk.r0 j _ hjn (hBQ _ _ (by omega) (by omega))⟩,?_⟩
     clear hh hs hxx hxl g2 g3 c1
     rintro⟨t12,o11,o37'⟩ V10 l10 ⟨j',i,e10',hj',e12,hi,hC',hx',hS,hqS⟩
     dsimp only at e10' e12 hC' hS ⊢
     obtain rfl:j=j':=by omega
     obtain⟨g1,s1,g2,g3⟩:=(hRB.le numC.le (View.le_trans l9 l10)).row (t:=t10) (by omega) (row:=rowL (n+1) (B (n-(j+1)))) (by rw[ec]; exact Q04 (by omega) B)
     refine⟨λhlt2 => ?_,λhge2 => ?_⟩
     . have hij:i<j:=by simp at hlt2; omega
       have ek:t12.toNat=n-(j+1)+1+i:=by omega
       obtain⟨c1,x,hxx,hxl,hh,hs⟩:=y00.get g3 (t:=t12) (by omega) (z:=B (n-(j+1)) (n-(j+1)+1+i)) (by rw[ek]; exact n03 (by omega) _)
       obtain⟨y1,ey,hy1⟩:=elN hxx
       subst ey
       obtain⟨x',hx2,hxl2,hg⟩:=hC'.at (i:=t12.toNat) (z:=C0b numO Cq.zero B n j (n-(j+1)+1+i)) (by rw[ek]; exact n03 (by omega) _)
       obtain⟨y2,ey2,hy2⟩:=elN hx2
       subst ey2
       have qa:=hBQ (n-(j+1)) (n-(j+1)+1+i) (by omega) (by omega)
       have qX:=hx' (n-(j+1)+1+i) (by omega) (by omega)
       have okx:=hk.k3 j _ (by omega) qX
       refine⟨g1,s1,g2,c1,y1,hh,hs,⟨by omega,by omega⟩,y2,hg,?_⟩
       refine(mulN hy1 hy2 (hk.k1 _ qa) okx).mono λv V11 l11 ⟨r5,hv,h5⟩=>⟨r5,hv,?_⟩
       refine(subN (atN.le l11 hS) h5 (hk.k2 j i _ hjn (by omega) hqS) (hk.k1 _ qa) okx).mono λv V12 l12 ⟨r6,hv,h6⟩=>⟨r6,hv,?_⟩
       rw[i64w (by omega) (by omega)]
       exact⟨⟨j,i+1,e10,hjn,by omega,by omega,hC'.imp (numC.le (View.le_trans l11 l12)),hx',h6,hk.r1 j i _ _ _ hjn hij hqS qa qX⟩,by omega⟩
     . have hij:i=j:=by simp at hge2; omega
       subst hij
       obtain⟨c1,x,hxx,hxl,hh,hs⟩:=y00.get g3 (t:=t10) (by omega) (z:=B (n-(i+1)) (n-(i+1))) (by rw[ec]; exact n03 (by omega) _)
       obtain⟨y1,ey,hy1⟩:=elN hxx
       subst ey
       have qa:=hBQ (n-(i+1)) (n-(i+1)) (by omega) (by omega)
       refine⟨g1,s1,g2,c1,y1,hh,hs,?_⟩
       refine(divN hS hy1 (hk.k2 i i _ hjn (Nat.le_refl _) hqS) (hk.k1 _ qa) (hdiag _ (by omega))).mono λv V13 l13 ⟨r7,hv,h7⟩=>⟨r7,0,hv,⟨by omega,by omega⟩,?_,?_⟩
       . rw[hC'.length,k00,ec]
         have e2:(n-(i+1))*5+5=(n-(i+1)+1)*5:=by rw[Nat.add_mul,Nat.one_mul]
         rw[Nat.zero_add,e2]
         exact Nat.mul_le_mul_right _ (by omega)
       . rw[i64w (by omega) (by omega)]
         have hset:=(hC'.imp (numC.le l13)).set0 (i:=n-(i+1)) (by rw[k00]; omega) (lenN r7) (F0t h7)
         rw[x0d]at hset
         refine⟨⟨i+1,by omega,by omega,by rw[ec]; exact hset,λk h1 h2 => ?_⟩,by omega⟩
         simp only[C0b]
         by_cases e:k=n-(i+1)
         . rw[if_pos e]; exact hk.r2 i _ _ hjn hqS qa
         . rw[if_neg e]; exact hk.r3 i _ hjn (hx' k (by omega) h2)
   . have hjn:j=n:=by simp at hlt; omega
     subst hjn
     intro b5 V14 l14 hb5
     rw[Int.toNat_natCast]
     refine⟨⟨some (Addr.mk b5 0 none),j,j⟩,rfl,?_⟩
     exact d06 hb5 (hC.imp (numC.le l14)) (by rw[k00])
def Xb(T:Nat):Nat->Nat
 | 0=>0
 | j+1=>max (Xb T j) (4*(T+j*(T+Xb T j+2))+8)
theorem u0v{T:Nat}:∀ {j n:Nat},j<=n->Xb T j<=Xb T n
 | j, 0, h => by have : j = 0 := by omega
                 subst this; exact Nat.le_refl _
 | j,n+1,h=>by
   by_cases e:j=n+1
   . subst e; exact Nat.le_refl _
   . exact Nat.le_trans (u0v (j:=j) (n:=n) (by omega)) (Nat.le_max_left _ _)
theorem W0t{n T:Nat}(h:T+n*(T+Xb T n+2)<=2^36)(hX:Xb T n<=2^36) :
 t0v n (λz=>z.sz<=T) (λj i s=>s.sz<=T+i*(T+Xb T j+2)) (λj x=>x.sz<=Xb T j):=by
 refine⟨λj x _ hx=>by rw[Nat.zero_mul]; exact hx,λj i s a x hj hi hs ha hx => ?_,λj s a hj hs ha => ?_,λj x _ hx=>Nat.le_trans hx (Nat.le_max_left _ _),λx hx => ?_,λj i s hj hi hs => ?_,λj x hj hx => ?_⟩
 . have h1:=j03 a x
   have h2:=o08 s (a*x)
   show(s-a*x).sz<=_
   rw[Nat.add_mul,Nat.one_mul]; omega
 . have hd:(s.div a).sz<=4*(T+j*(T+Xb T j+2))+8:=n0o hs (by
     have:0<=j*(T+Xb T j+2):=Nat.zero_le _
     omega)
   exact Nat.le_trans hd (Nat.le_max_right _ _)
 . unfold okN; omega
 . have h1:=u0v (T:=T) (j:=j) (n:=n) (by omega)
   have h2:i*(T+Xb T j+2)<=n*(T+Xb T n+2):=Nat.mul_le_mul (by omega) (by omega)
   unfold okN; omega
 . have h1:=u0v (T:=T) (j:=j) (n:=n) hj
   unfold okN; omega
def qN(S:Nat)(c:Nat)(z:Cq):Prop:=z.sz+2<=(S+2)*6^c
theorem qN_2{S:Nat}(c:Nat)(x y z u:Cq)(hx:qN S c x)(hy:qN S c y)(hz:qN S c z)(hu:qN S c u):qN S (c+1) (numO.sub x (numO.mul (numO.div y z) u)):=by
 unfold qN at *
 rw[Nat.pow_succ]
 have e:(S+2)*(6^c*6)=((S+2)*6^c)*6:=by rw[Nat.mul_assoc]
 rw[e]
 generalize (S+2)*6^c=T at *
 have h1:(y.div z).sz<=4*(T-2)+8:=n0o (by omega) (by omega)
 have h2:=j03 (y.div z) u
 have h3:=o08 x (y.div z*u)
 show(x-y.div z*u).sz+2<=_
 omega
theorem qN_3{S:Nat}(c:Nat)(x:Cq)(hx:qN S c x):qN S (c+1) x:=by
 unfold qN at *
 rw[Nat.pow_succ]
 have e:(S+2)*(6^c*6)=((S+2)*6^c)*6:=by rw[Nat.mul_assoc]
 omega
theorem qN_1{S n:Nat}(h:(S+2)*6^n<=2^36)(c:Nat)(x:Cq)(hc:c<=n)(hx:qN S c x):okN x:=by
 unfold qN at hx
 have:(S+2)*6^c<=(S+2)*6^n:=Nat.mul_le_mul_left _ (Nat.pow_le_pow_right (by omega) hc)
 unfold okN; omega
def augN(n:Nat)(A:Nat->Nat->Cq)(b:Nat->Cq):Nat->Nat->Cq:=u09 A n λ_ i=>b i
theorem z0n{V:View}{p q:Sl}{n:Nat}{A:Nat->Nat->Cq}{b:Nat->Cq}(S:Nat)(h:X00 5 numC V p (matL n n A))(hb:l02 V q (rowL n b))(hn:n<=32)(hA:∀i j,i<n->j<n->(A i j).sz<=S)(hB:∀i,i<n->(b i).sz<=S)
 (hS:(S+2)*6^n+n*((S+2)*6^n+Xb ((S+2)*6^n) n+2)<=2^36) (hX:Xb ((S+2)*6^n) n<=2^36) :
 a00 prog p09 #[p.v,q.v] V λv V'=>∃r:Sl,match (elim numO n (n+1) (augN n A b)).2.2 with
  | none=>v = .tuple #[r.v,.int .i64 0]/\l02 V' r (rowL n (C0b numO Cq.zero (elim numO n (n+1) (augN n A b)).1 n n))/\∀i,i<n->(C0b numO Cq.zero (elim numO n (n+1) (augN n A b)).1 n n i).sz<=Xb ((S+2)*6^n) n
  | some _=>v = .tuple #[r.v,.int .i64 6]/\r=⟨none,0,0⟩:=by
 have q0:∀ {z:Cq},z.sz<=S->qN S 0 z:=λhz=>by unfold qN; rw[Nat.pow_zero]; omega
 have qT:∀ {z:Cq},qN S n z->z.sz<=(S+2)*6^n:=λhz=>by unfold qN at hz; omega
 have hk:=W0t (T:=(S+2)*6^n) hS hX
 have hk':t0v n (qN S n) (λj i s=>s.sz<=(S+2)*6^n+i*((S+2)*6^n+Xb ((S+2)*6^n) j+2)) (λj x=>x.sz<=Xb ((S+2)*6^n) j) :=
  ⟨λj x hj hx=>hk.r0 j x hj (qT hx),λj i s a x hj hi hs ha hx=>hk.r1 j i s a x hj hi hs (qT ha) hx,λj s a hj hs ha=>hk.r2 j s a hj hs (qT ha),hk.r3,λx hx=>hk.k1 x (qT hx),hk.k2,hk.k3⟩
 have hok:∀c x,c<=n->qN S c x->okN x:=qN_1 (by omega)
 refine(g0f h hb hn (qN S) hok qN_2 qN_3 (λi j hi hj=>q0 (hA i j hi hj)) (λi hi=>q0 (hB i hi)) _ _ hk').mono λv V' _ ⟨r,hr⟩=>⟨r,?_⟩
 unfold augN
 cases e:(elim numO n (n+1) (u09 A n λ_ i=>b i)).2.2 with
 | some c=>rw[e]at hr; exact hr
 | none =>
   rw[e]at hr
   refine⟨hr.1,hr.2,λi hi => ?_⟩
   have hBQ:∀i j,i<n->j<n+1->qN S n ((elim numO n (n+1) (u09 A n λ_ i=>b i)).1 i j):=w0h numO (qN S) n (n+1) qN_2 qN_3 n 0 _ 0 (by omega) (by omega) λi j hi hj=>by
    show qN S 0 (if j<n then A i j else b i)
    split
    . exact q0 (hA i j hi (by assumption))
    . exact q0 (hB i hi)
   have key:∀j,j<=n->∀i,n-j<=i->i<n->(C0b numO Cq.zero (elim numO n (n+1) (u09 A n λ_ i=>b i)).1 n j i).sz<=Xb ((S+2)*6^n) j:=by
    intro j
    induction j with
    | zero=>intro _ i h1 h2; omega
    | succ j ih =>
      intro hj i h1 h2
      have ih:=ih (by omega)
      simp only[C0b]
      by_cases e:i=n-(j+1)
      . rw[if_pos e]
        refine hk'.r2 j _ _ (by omega) ?_ (hBQ _ _ (by omega) (by omega))
        have bs:∀k,k<=j->(A0r numO (elim numO n (n+1) (u09 A n λ_ i=>b i)).1 (C0b numO Cq.zero (elim numO n (n+1) (u09 A n λ_ i=>b i)).1 n j) (n-(j+1)) n k).sz<=(S+2)*6^n+k*((S+2)*6^n+Xb ((S+2)*6^n) j+2):=by
         intro k
         induction k with
         | zero=>intro _; exact hk'.r0 j _ (by omega) (hBQ _ _ (by omega) (by omega))
         | succ k ihk=>intro hkj; exact hk'.r1 j k _ _ _ (by omega) (by omega) (ihk (by omega)) (hBQ _ _ (by omega) (by omega)) (ih _ (by omega) (by omega))
        exact bs j (Nat.le_refl j)
      . rw[if_neg e]; exact hk'.r3 j _ (by omega) (ih i (by omega) h2)
   exact key n (Nat.le_refl n) i (by omega) hi
def adjQ(A:Nat->Nat->Cq):Nat->Nat->Cq:=λk i=>(A i k).conj
theorem f0m{V:View}{p:Sl}{n w:Nat}{A:Nat->Nat->Cq}(h:X00 5 numC V p (matL n w A))(h0:0<n)(hn:n<=32)(hw:w<=32) :
 a00 prog s0c #[p.v] V λv V'=>∃r:Sl,v = .tuple #[r.v,.int .i64 0]/\X00 5 numC V' r (matL w n (adjQ A)):=by
 have hl:p.len=n:=by have:=h.len; rw[w00]at this; exact this
 obtain⟨e1,e2,_⟩:=M0h A hn hw
 have e2:=e2 h0
 refine W0b p V _
  (λ_ x V'=>∃k:Nat,x.t20=k/\k<=w/\x.o17.length=w/\E03 5 numC x.o0 V' x.o17 w (λi=>if i<k then rowL n (adjQ A i)else [])) (λ_ x _=>w-x.t20.toNat)
  (λc x V'=>∃k j:Nat,c.t20=k/\c.t7=k/\k<w/\x.t25=j/\j<=n/\x.o17.length=w/\E03 5 numC x.o0 V' x.o17 w (λi=>if i<k then rowL n (adjQ A i)else if i=k then rowL j (adjQ A k)else [])) (λ_ x _=>n-x.t25.toNat) ?_
 refine(t09 h (by rw[w00]; omega)).mono λv V1 l1 hv=>⟨_,_,hv,λhf => ?_,λ_ => ?_⟩
 . rw[e1]at hf; simp at hf
 rw[e2,hl,Int.toNat_natCast]
 refine⟨⟨by omega,by omega,by omega,by omega⟩,⟨0,rfl,by omega,by simp,?_⟩,?_⟩
 . rw[W0p]; exact(D0d V1 w).congr λi _=>by rw[if_neg (by omega)]
 rintro⟨t20,o0,o17⟩ V3 l3 ⟨k,ek,hk,hol,hR⟩
 dsimp only at ek hol hR ⊢
 subst ek
 refine⟨λhlt=>⟨⟨k,0,rfl,rfl,by simp at hlt; omega,rfl,by omega,hol,hR.congr λi hi => ?_⟩,?_⟩,λhge => ?_⟩
 . by_cases e:i<k
   . rw[if_pos e,if_pos e]
   . rw[if_neg e,if_neg e]
     split<;>rfl
 . rintro⟨t25,o0',o17'⟩ V4 l4 ⟨k',j,ek,_,hkw,ej,hj,hol',hR'⟩
   dsimp only at ek ej hol' hR' ⊢
   obtain rfl:k=k':=by omega
   subst ej
   refine⟨λhlt2 => ?_,λhge2 => ?_⟩
   . have hjn:j<n:=by simp at hlt2; omega
     obtain⟨s3,e3,r1,r2,r3,⟨o3,r4,r5,r6⟩,r7⟩:=hR'.row (i:=k) hkw
     rw[if_neg (by omega),if_pos rfl]at r1 r6
     rw[k00]at r1
     obtain⟨g1,s,g2,g3⟩:=(h.le numC.le (View.le_trans l1 (View.le_trans l3 l4))).row (t:=(j:Int)) (by omega) (row:=rowL w (A j)) (by rw[Int.toNat_natCast]; exact Q04 hjn A)
     rw[hl]at g1
     obtain⟨d1,x,hx,hxl,hh,hs⟩:=y00.get g3 (t:=(k:Int)) (by omega) (z:=A j k) (by rw[Int.toNat_natCast]; exact n03 hkw _)
     obtain⟨y,rfl,hy⟩:=hx
     refine⟨⟨by omega,by omega⟩,s3,by rw[Int.toNat_natCast,Nat.mul_one,Nat.zero_add]; exact e3,g1,s,.inr g2,d1,y,.inr hh,hs,(f0c hy).mono λv V5 l5 ⟨r,hv,hr⟩=>⟨r,hv,λb2 V6 l6 _ hb2 => ?_⟩⟩
     have hnew:V6.has (some (Addr.mk b2 0 none)) r.val.cells.toList:=P04 (cs:=r.val.cells.toList) (j:=0) hb2 (λi v hv=>by rw[Nat.zero_add]; exact hv) rfl
     have hrc:numC V6 r.val.cells.toList (adjQ A k j):=⟨r,rfl,hr.le l6⟩
     refine⟨o3,_,⟨r2,r3⟩,A0c (View.le_trans l5 l6) r4,r5,.inr hnew,rfl,oneN hrc,by unfold maxLen; omega,by omega,λ_ h2=>r7 1 (by omega) h2,λa1 c1 m1 ha=>⟨⟨by omega,by omega⟩,by rw[hol',Int.toNat_natCast]; omega,?_⟩⟩
     have:=(hR'.le numC.le (View.le_trans l5 l6)).app (i:=k) hkw e3 (z:=adjQ A k j) rfl hrc (o':=o3) (by rw[if_neg (by omega),if_pos rfl]; exact r6.imp (numC.le (View.le_trans l5 l6))) ha
     rw[i64w (by omega) (by omega)]
     refine⟨⟨k,j+1,rfl,rfl,hkw,by omega,by omega,by simp[hol'],?_⟩,by omega⟩
     have e1:(0+Int.toNat (k:Int)*1)=k:=by omega
     rw[e1]
     refine this.congr λi hi => ?_
     by_cases e:i=k
     . subst e
       simp only[if_true,Nat.lt_irrefl,if_false]
       exact m0a _ _
     . simp only[if_neg e]
   . have e:j=n:=by simp at hge2; omega
     subst e
     rw[i64w (by omega) (by omega)]
     refine⟨⟨k+1,by omega,by omega,hol',hR'.congr λi hi => ?_⟩,by omega⟩
     by_cases e:i<k
     . rw[if_pos e,if_pos (by omega)]
     . rw[if_neg e]
       by_cases e2:i=k
       . subst e2; rw[if_pos rfl,if_pos (by omega)]
       . rw[if_neg e2,if_neg (by omega)]
 . have e:k=w:=by simp at hge; omega
   subst e
   refine⟨by decide,λV7 l7 hpub b5 V8 l8 hb5=>⟨_,rfl,?_⟩⟩
   have hR2:E03 5 numC o0 V3 o17 k (λi=>rowL n (adjQ A i)):=hR.congr λi hi=>by rw[if_pos hi]
   exact hR2.knownL numC.le hol (View.le_trans l7 l8) (λb cs hb=>l8 b cs (hpub b cs hb)) hb5
def nrmA(n:Nat)(A:Nat->Nat->Cq):Nat->Nat->Cq:=λi j=>sq (λk=>adjQ A i k*A k j) 0 n
def nrmB(n:Nat)(A:Nat->Nat->Cq)(b:Nat->Cq):Nat->Cq:=λi=>sq (λk=>adjQ A i k*b k) 0 n
theorem w0v{f:Nat->Cq}{S:Nat}:∀(j:Nat),(∀k,k<j->(f k).sz<=S)->(sq f 0 j).sz<=1+j*(S+1)
 | 0,_=>by have:=J07; show Cq.zero.sz<=_; omega
 | j+1,h=>by
   have ih:=w0v j λk hk=>h k (by omega)
   have h1:=F0b (sq f 0 j) (f (0+j))
   have h2:=h (0+j) (by omega)
   rw[sq,Nat.add_mul]; omega
theorem u0s{n:Nat}{A:Nat->Nat->Cq}{S w:Nat}(h:∀i j,i<n->j<w->(A i j).sz<=S)(m:Nat)(hm:m<=n)(i j:Nat)(hi:i<w)(hj:j<w):(sq (λk=>adjQ A i k*A k j) 0 m).sz<=1+n*(2*S+2):=by
 have:=w0v (f:=λk=>adjQ A i k*A k j) (S:=2*S+1) m λk hk=>by
  have h1:=j03 (adjQ A i k) (A k j)
  have h2:=h k i (by omega) hi
  have h3:=h k j (by omega) hj
  have h4:(adjQ A i k).sz=(A k i).sz:=G0b _
  omega
 have h2:m*(2*S+1+1)<=n*(2*S+2):=Nat.mul_le_mul hm (by omega)
 omega
theorem w0s{n:Nat}{A:Nat->Nat->Cq}{b:Nat->Cq}{S w:Nat}(h:∀i j,i<n->j<w->(A i j).sz<=S)(hb:∀i,i<n->(b i).sz<=S)(m:Nat)(hm:m<=n)(i:Nat)(hi:i<w):(sq (λk=>adjQ A i k*b k) 0 m).sz<=1+n*(2*S+2):=by
 have:=w0v (f:=λk=>adjQ A i k*b k) (S:=2*S+1) m λk hk=>by
  have h1:=j03 (adjQ A i k) (b k)
  have h2:=h k i (by omega) hi
  have h3:=hb k (by omega)
  have h4:(adjQ A i k).sz=(A k i).sz:=G0b _
  omega
 have h2:m*(2*S+1+1)<=n*(2*S+2):=Nat.mul_le_mul hm (by omega)
 omega
theorem o0q{V:View}{p q:Sl}{n w:Nat}{A:Nat->Nat->Cq}{b:Nat->Cq}(S:Nat)(h:X00 5 numC V p (matL n w A))(hb:l02 V q (rowL n b))(h0:0<n)(hn:n<=32)(hw:w<=32)
 (hA:∀i j,i<n->j<w->(A i j).sz<=S) (hB:∀i,i<n->(b i).sz<=S) (T:Nat) (hT:T=1+n*(2*S+2))
 (hS:(T+2)*6^w+w*((T+2)*6^w+Xb ((T+2)*6^w) w+2)<=2^36) (hX:Xb ((T+2)*6^w) w<=2^36) :
 a00 prog H0m #[p.v,q.v] V λv V'=>∃r:Sl,match (elim numO w (w+1) (augN w (nrmA n A) (nrmB n A b))).2.2 with
  | none=>v = .tuple #[r.v,.int .i64 0]/\l02 V' r (rowL w (C0b numO Cq.zero (elim numO w (w+1) (augN w (nrmA n A) (nrmB n A b))).1 w w)) /\
      ∀i,i<w->(C0b numO Cq.zero (elim numO w (w+1) (augN w (nrmA n A) (nrmB n A b))).1 w w i).sz<=Xb ((T+2)*6^w) w
  | some _=>v = .tuple #[r.v,.int .i64 6]/\r=⟨none,0,0⟩:=by
 have hl:p.len=n:=by have:=h.len; rw[w00]at this; exact this
 have hql:q.len=n:=by have:=hb.len; rw[k00]at this; exact this
 have hpw:0<6^w:=Nat.pow_pos (by omega)
 have hTb:T+2<=2^36:=by
  have:(T+2)*1<=(T+2)*6^w:=Nat.mul_le_mul_left _ hpw
  omega
 have hSb:2*S+2<=2^36:=by
  have:1*(2*S+2)<=n*(2*S+2):=Nat.mul_le_mul_right _ h0
  omega
 have hcsz:∀i k,i<w->k<n->(adjQ A i k).sz<=S:=λi k hi hk=>by rw[show(adjQ A i k).sz=(A k i).sz from G0b _]; exact hA k i hk hi
 refine t0l p q V _ (λ_ _ _=>True)
  (λ_ x V'=>∃i:Nat,x.t38=i/\i<=w/\x.o32.length=w/\E03 5 numC x.o0 V' x.o32 w (λr=>if r<i then rowL w (nrmA n A r)else [])/\S01 5 numC V' x.o35 (rowL w λr=>if r<i then nrmB n A b r else Cq.zero))
  (λ_ x _=>w-x.t38.toNat)
  (λc x V'=>∃i j:Nat,c.t38=i/\c.t10=i/\i<w/\x.t45=j/\j<=w/\x.o32.length=w/\E03 5 numC x.o0 V' x.o32 w (λr=>if r<i then rowL w (nrmA n A r)else if r=i then rowL j (nrmA n A i)else []) /\
    S01 5 numC V' x.o35 (rowL w λr=>if r<i then nrmB n A b r else Cq.zero))
  (λ_ x _=>w-x.t45.toNat)
  (λc x V'=>∃i j k:Nat,c.t38=i/\c.t10=i/\i<w/\c.t45=j/\c.t12=j/\j<w/\x.t50=k/\k<=n/\x.o32.length=w/\E03 5 numC x.o0 V' x.o32 w (λr=>if r<i then rowL w (nrmA n A r)else if r=i then rowL j (nrmA n A i)else []) /\
    S01 5 numC V' c.o35 (rowL w λr=>if r<i then nrmB n A b r else Cq.zero)/\l01 V' x.o13 (sq (λk=>adjQ A i k*A k j) 0 k))
  (λ_ x _=>n-x.t50.toNat)
  (λc x V'=>∃i k:Nat,c.t38=i/\c.t10=i/\i<w/\x.t81=k/\k<=n/\c.o32.length=w/\E03 5 numC c.o0 V' c.o32 w (λr=>if r<i+1 then rowL w (nrmA n A r)else []) /\
    S01 5 numC V' x.o35 (rowL w λr=>if r<i then nrmB n A b r else if r=i then sq (λk=>adjQ A i k*b k) 0 k else Cq.zero))
  (λ_ x _=>n-x.t81.toNat) ?_
 refine(f0m h h0 hn hw).mono λv V1 l1 ⟨r1,hv,hr1⟩=>⟨r1,0,hv,⟨λhf=>absurd hf (by simp),λ_=>⟨λhf => ?_,λ_=>trivial⟩⟩,?_⟩
 . rw[hl,hql]at hf; simp at hf
 have hrl:r1.len=w:=by have:=hr1.len; rw[w00]at this; exact this
 rintro⟨u⟩ V2 l2 -
 rw[hrl,hl]
 have hz:(List.replicate (Int.toNat (w:Int)) [Value.bool false,Value.slice none 0 0,Value.bool false,Value.slice none 0 0,Value.slice none 0 0]).flatten.length=w*5:=by simp
 refine⟨⟨by omega,by omega,by omega,by omega⟩,⟨by omega,by omega,by omega,by omega⟩,⟨0,rfl,by omega,by simp,?_,?_⟩,?_⟩
 . rw[W0p,Int.toNat_natCast]; exact(D0d V2 w).congr λi _=>by rw[if_neg (by omega)]
 . have e:(rowL w λr=>if r<0 then nrmB n A b r else Cq.zero)=List.replicate w Cq.zero:=by
     rw[<-y0d]; exact x03 λk _=>by rw[if_neg (by omega)]
   rw[e,Int.toNat_natCast]; exact u05.zeros V2 w
 rintro⟨t38,o0,o32,o35⟩ V5 l5 ⟨i,ei,hi,hol,hR,hC⟩
 dsimp only at ei hol hR hC ⊢
 subst ei
 refine⟨λhlt => ?_,λhge => ?_⟩
 . have hiw:i<w:=by simp at hlt; omega
   have L5:=View.le_trans l2 l5
   obtain⟨g1,s,g2,g3⟩:=(hr1.le numC.le L5).row (t:=(i:Int)) (by omega) (row:=rowL n (adjQ A i)) (by rw[Int.toNat_natCast]; exact Q04 hiw _)
   rw[hrl]at g1
   have g3l:s.len=n:=by have:=g3.len; rw[k00]at this; exact this
   refine⟨g1,s,.inr g2,⟨i,0,rfl,rfl,hiw,rfl,by omega,hol,hR.congr λr _ => ?_,hC⟩,?_⟩
   . by_cases e:r<i
     . rw[if_pos e,if_pos e]
     . rw[if_neg e,if_neg e]; split<;>rfl
   rintro⟨t45,o0',o32',o35'⟩ V6 l6 ⟨i',j,ei,_,_,ej,hj,hol',hR',hC'⟩
   dsimp only at ei ej hol' hR' hC' ⊢
   obtain rfl:i=i':=by omega
   subst ej
   refine⟨λhlt2 => ?_,λhge2 => ?_⟩
   . have hjw:j<w:=by simp at hlt2; omega
     refine⟨⟨i,j,0,rfl,rfl,hiw,rfl,rfl,hjw,rfl,by omega,hol',hR',hC',l01.zero V6⟩,?_⟩
     rintro⟨t50,o0'',o13,o32''⟩ V7 l7 ⟨i',j',k,ei,_,_,ej,_,_,ek,hk,hol'',hR'',hC'',hs⟩
     dsimp only at ei ej ek hol'' hR'' hC'' hs ⊢
     obtain rfl:i=i':=by omega
     obtain rfl:j=j':=by omega
     subst ek
     have L7:=View.le_trans l6 l7
     refine⟨λhlt3 => ?_,λhge3 => ?_⟩
     . have hkn:k<n:=by simp at hlt3; omega
       obtain⟨d1,x,⟨y,rfl,hy⟩,hxl,hh,hsm⟩:=y00.get (y00.le (numC.le L7) L7 g3) (t:=(k:Int)) (by omega) (z:=adjQ A i k) (by rw[Int.toNat_natCast]; exact n03 hkn _)
       obtain⟨f1,s2,f2,f3⟩:=(h.le numC.le (View.le_trans l1 (View.le_trans L5 L7))).row (t:=(k:Int)) (by omega) (row:=rowL w (A k)) (by rw[Int.toNat_natCast]; exact Q04 hkn A)
       rw[hl]at f1
       obtain⟨d2,x2,⟨y2,rfl,hy2⟩,hxl2,hh2,hsm2⟩:=y00.get f3 (t:=(j:Int)) (by omega) (z:=A k j) (by rw[Int.toNat_natCast]; exact n03 hjw _)
       have z1:=hcsz i k hiw hkn
       have z2:=hA k j hkn hjw
       have z3:=u0s hA k hk i j hiw hjw
       have z4:=j03 (adjQ A i k) (A k j)
       refine⟨d1,y,.inr hh,hsm,f1,s2,.inr f2,d2,y2,.inr hh2,hsm2,(e03 hy hy2 (by omega) (by omega)).mono λv V8 l8 ⟨r3,hv,h3⟩=>⟨r3,hv,?_⟩⟩
       refine(Z05 (hs.le l8) h3 (by omega) (by omega)).mono λv V9 l9 ⟨r4,hv,h4⟩=>⟨r4,hv,?_⟩
       rw[i64w (by omega) (by omega)]
       have L9:=View.le_trans l8 l9
       refine⟨⟨i,j,k+1,rfl,rfl,hiw,rfl,rfl,hjw,by omega,by omega,hol'',hR''.le numC.le L9,hC''.imp (numC.le L9),?_⟩,by omega⟩
       rw[sq,Nat.zero_add]; exact h4
     . have e:k=n:=by simp at hge3; omega
       subst e
       obtain⟨s3,e3,r1',r2,r3,⟨o3,r4,r5,r6⟩,r7⟩:=hR''.row (i:=i) hiw
       rw[if_neg (by omega),if_pos rfl]at r1' r6
       rw[k00]at r1'
       refine⟨⟨by omega,by omega⟩,s3,by rw[Int.toNat_natCast,Nat.mul_one,Nat.zero_add]; exact e3,λb3 V10 l10 _ hb3 => ?_⟩
       have hnew:V10.has (some (Addr.mk b3 0 none)) o13.val.cells.toList:=P04 (cs:=o13.val.cells.toList) (j:=0) hb3 (λi v hv=>by rw[Nat.zero_add]; exact hv) rfl
       have hrc:numC V10 o13.val.cells.toList (nrmA k A i j):=⟨o13,rfl,hs.le l10⟩
       refine⟨o3,_,⟨r2,r3⟩,A0c l10 r4,r5,.inr hnew,rfl,oneN hrc,by unfold maxLen; omega,by omega,λ_ h2=>r7 1 (by omega) h2,λa1 c1 m1 ha=>⟨⟨by omega,by omega⟩,by rw[hol'',Int.toNat_natCast]; omega,?_⟩⟩
       have:=(hR''.le numC.le l10).app (i:=i) hiw e3 (z:=nrmA k A i j) rfl hrc (o':=o3) (by rw[if_neg (by omega),if_pos rfl]; exact r6.imp (numC.le l10)) ha
       rw[i64w (by omega) (by omega)]
       refine⟨⟨i,j+1,rfl,rfl,hiw,by omega,by omega,by simp[hol''],?_,hC''.imp (numC.le l10)⟩,by omega⟩
       have e1:(0+Int.toNat (i:Int)*1)=i:=by omega
       rw[e1]
       refine this.congr λr hr => ?_
       by_cases e:r=i
       . subst e
         simp only[if_true,Nat.lt_irrefl,if_false]
         exact m0a _ _
       . simp only[if_neg e]
   . have ej:j=w:=by simp at hge2; omega
     subst ej
     have hR4:E03 5 numC o0' V6 o32' j (λr=>if r<i+1 then rowL j (nrmA n A r)else []):=hR'.congr λr _=>by
      by_cases e:r<i
      . rw[if_pos e,if_pos (by omega)]
      . rw[if_neg e]
        by_cases e2:r=i
        . subst e2; rw[if_pos rfl,if_pos (by omega)]
        . rw[if_neg e2,if_neg (by omega)]
     refine⟨⟨i,0,rfl,rfl,hiw,rfl,by omega,hol',hR4,?_⟩,?_⟩
     . rw[x03 (g:=λr=>if r<i then nrmB n A b r else Cq.zero) (λr _=>by
         by_cases e:r<i
         . rw[if_pos e,if_pos e]
         . rw[if_neg e,if_neg e]; split<;>rfl)]
       exact hC'
     rintro⟨t81,o35''⟩ V11 l11 ⟨i',k,ei,_,_,ek,hk,hol4,hR5,hC5⟩
     dsimp only at ei ek hol4 hR5 hC5 ⊢
     obtain rfl:i=i':=by omega
     subst ek
     have L11:=View.le_trans l6 l11
     refine⟨λhlt3 => ?_,λhge3 => ?_⟩
     . have hkn:k<n:=by simp at hlt3; omega
       obtain⟨x0,⟨y0,rfl,hy0⟩,hxl0,hg0⟩:=hC5.at (i:=i) (z:=sq (λk=>adjQ A i k*b k) 0 k) (by rw[n03 hiw,if_neg (by omega),if_pos rfl])
       obtain⟨d1,x,⟨y,rfl,hy⟩,hxl,hh,hsm⟩:=y00.get (y00.le (numC.le L11) L11 g3) (t:=(k:Int)) (by omega) (z:=adjQ A i k) (by rw[Int.toNat_natCast]; exact n03 hkn _)
       obtain⟨d2,x2,⟨y2,rfl,hy2⟩,hxl2,hh2,hsm2⟩:=y00.get (hb.le (View.le_trans l1 (View.le_trans L5 L11))) (t:=(k:Int)) (by omega) (z:=b k) (by rw[Int.toNat_natCast]; exact n03 hkn _)
       rw[hql]at d2
       have z1:=hcsz i k hiw hkn
       have z2:=hB k hkn
       have z3:=w0s hA hB k hk i hiw
       have z4:=j03 (adjQ A i k) (b k)
       refine⟨⟨by omega,by omega⟩,y0,by rw[Int.toNat_natCast]; exact hg0,d1,y,.inr hh,hsm,by rw[hql]; exact d2,y2,.inr hh2,hsm2,(e03 hy hy2 (by omega) (by omega)).mono λv V12 l12 ⟨r5,hv,h5⟩=>⟨r5,hv,?_⟩⟩
       refine(Z05 (l01.le l12 hy0) h5 (by omega) (by omega)).mono λv V13 l13 ⟨r6,hv,h6⟩=>⟨r6,hv,⟨by omega,by omega⟩,?_,?_⟩
       . rw[hC5.length,k00,Int.toNat_natCast]
         have e2:i*5+5=(i+1)*5:=by omega
         rw[Nat.zero_add,e2]; exact Nat.mul_le_mul_right _ hiw
       . have L13:=View.le_trans l12 l13
         rw[i64w (by omega) (by omega)]
         refine⟨⟨i,k+1,rfl,rfl,hiw,by omega,by omega,hol4,hR5.le numC.le L13,?_⟩,by omega⟩
         have hset:=(hC5.imp (numC.le L13)).set0 (i:=i) (by rw[k00]; exact hiw) (lenN r6) (F0t h6)
         rw[x0d]at hset
         rw[Int.toNat_natCast]
         rw[x03 (g:=λr=>if r<i then nrmB n A b r else if r=i then sq (λk=>adjQ A i k*b k) 0 (k+1)else Cq.zero) (λr _=>by
          by_cases e:r=i
          . subst e; rw[if_pos rfl,if_neg (by omega),if_pos rfl,sq,Nat.zero_add]
          . rw[if_neg e,if_neg e,if_neg e])]at hset
         exact hset
     . have e:k=n:=by simp at hge3; omega
       subst e
       rw[i64w (by omega) (by omega)]
       refine⟨⟨i+1,by omega,by omega,hol4,hR5,?_⟩,by omega⟩
       rw[x03 (g:=λr=>if r<i then nrmB k A b r else if r=i then sq (λk=>adjQ A i k*b k) 0 k else Cq.zero) (λr _=>by
        by_cases e:r<i
        . rw[if_pos e,if_pos (by omega)]
        . rw[if_neg e]
          by_cases e2:r=i
          . subst e2; rw[if_pos rfl,if_pos (by omega)]; rfl
          . rw[if_neg e2,if_neg (by omega)])]
       exact hC5
 . have ei:i=w:=by simp at hge; omega
   subst ei
   refine⟨by decide,λV14 l14 hpub b6 V15 l15 hb6 b7 V16 l16 hb7 => ?_⟩
   have hR2:E03 5 numC o0 V5 o32 i (λr=>rowL i (nrmA n A r)):=hR.congr λr hr=>by rw[if_pos hr]
   have L16:=View.le_trans l14 (View.le_trans l15 l16)
   have hM:X00 5 numC V16 ⟨some ⟨b6,0,none⟩,i,i⟩ (matL i i (nrmA n A)):=hR2.knownL numC.le hol L16 (λb cs hb=>l16 b cs (l15 b cs (hpub b cs hb))) (l16 _ _ hb6)
   rw[x03 (g:=nrmB n A b) (λr hr=>by rw[if_pos hr])]at hC
   have hv':l02 V16 ⟨some ⟨b7,0,none⟩,i,i⟩ (rowL i (nrmB n A b)):=d06 hb7 (hC.imp (numC.le L16)) (by rw[k00])
   rw[Int.toNat_natCast]
   have tA:∀r j,r<i->j<i->(nrmA n A r j).sz<=T:=λr j h1 h2=>by rw[hT]; exact u0s hA n (Nat.le_refl n) r j h1 h2
   have tB:∀r,r<i->(nrmB n A b r).sz<=T:=λr h1=>by rw[hT]; exact w0s hA hB n (Nat.le_refl n) r h1
   refine(z0n T hM hv' hw tA tB hS hX).mono λv V17 l17 ⟨r7,h7⟩ => ?_
   cases e:(elim numO i (i+1) (augN i (nrmA n A) (nrmB n A b))).2.2 with
   | none=>rw[e]at h7; exact⟨r7,0,h7.1,r7,rfl,h7.2⟩
   | some c=>rw[e]at h7; exact⟨r7,6,h7.1,r7,rfl,h7.2⟩
theorem x0s{V:View}(s:A05):a00 prog u0g #[s.val] V λv _=>v=(G05.mk s.x s.y s.z).val:=z0f s V _ rfl
theorem N0h{V:View}(a:G05):a00 prog I0m #[a.val] V λv _=>v=(A05.mk a.e0 a.e1 a.e2).val :=
 u0l a V _ ⟨⟨by omega,by omega⟩,⟨by omega,by omega⟩,⟨by omega,by omega⟩,rfl⟩
theorem A0n{V:View}{s:A05}{p:P3}(h:w08 V s p):a00 prog Y0a #[s.val] V λv _=>v = .bool (!p.real):=by
 refine k0h s V _ ((y06 h.x).mono λv V1 l1 hv=>⟨_,hv,λh1 => ?_,λh1 => ?_⟩)
 . have:decide (p.x.im=0)=false:=by simpa using h1
   unfold P3.real; rw[this]; rfl
 . have e1:decide (p.x.im=0)=true:=by simpa using h1
   refine(y06 (h.y.le l1)).mono λv V2 l2 hv=>⟨_,hv,λh2 => ?_,λh2 => ?_⟩
   . have:decide (p.y.im=0)=false:=by simpa using h2
     unfold P3.real; rw[e1,this]; rfl
   . have e2:decide (p.y.im=0)=true:=by simpa using h2
     refine(y06 (h.z.le (View.le_trans l1 l2))).mono λv V3 l3 hv=>⟨_,hv,?_⟩
     unfold P3.real; rw[e1,e2]; rfl
theorem B0n{V:View}{s:Sl}{ps:List P3}(h:y00 15 k0n V s ps)(hn:ps.length<=2^40)(q:Fn0) :
 a00 prog G06 #[s.v,q.val Y0a] V λv _=>∃r:Int,v = .int .i64 r/\(0<=r↔∃p,p∈ps/\p.real=false):=by
 have hl:=h.len
 refine K04 s q V _ (λ_ x _=>∃t:Nat,x.t8=t/\t<=ps.length/\∀p,p∈ps.take t->p.real=true) (λ_ x _=>ps.length-x.t8.toNat) ⟨⟨0,rfl,by omega,by simp⟩,?_⟩
 rintro⟨t⟩ V1 l1 ⟨t',ht,htn,hi⟩
 dsimp only at ht ⊢
 subst ht
 refine⟨λhlt => ?_,λhge => ?_⟩
 . simp only[decide_eq_true_eq]at hlt
   have hk:t'<ps.length:=by omega
   obtain⟨g1,x,⟨y,rfl,hy⟩,_,hh,hs⟩:=y00.get (y00.le (k0n.le l1) l1 h) (t:=(t':Int)) (by omega) (z:=ps[t']) (by simp)
   refine⟨g1,y,hh,hs,(A0n hy).mono λv V2 l2 hv=>⟨_,hv,λhr=>⟨_,rfl,?_⟩,λhr => ?_⟩⟩
   . have e:ps[t'].real=false:=by simpa using hr
     exact⟨λ_=>⟨_,List.getElem_mem hk,e⟩,λ_=>by omega⟩
   . have e:ps[t'].real=true:=by simpa using hr
     rw[i64w (by omega) (by omega)]
     refine⟨⟨t'+1,by omega,by omega,λp hp => ?_⟩,by omega⟩
     rw[List.take_add_one,List.getElem?_eq_getElem hk]at hp
     simp only[Option.toList_some,List.mem_append,List.mem_singleton]at hp
     rcases hp with hp|hp
     . exact hi p hp
     . subst hp; exact e
 . have e:t'=ps.length:=by simp at hge; omega
   subst e
   rw[List.take_length]at hi
   exact⟨-1,rfl,λh=>absurd h (by omega),λ⟨p,h1,h2⟩=>by rw[hi p h1]at h2; simp at h2⟩
theorem s0j{V:View}{s:Sl}{ps:List P3}(h:y00 15 k0n V s ps)(hn:ps.length<=2^40):a00 prog a0g #[s.v] V λv _=>v = .bool (ps.all P3.real):=by
 refine S0j s V _ ((n04 s ⟨⟩ V _ ((B0n h hn _).mono λv V1 l1 ⟨r,hv,hr⟩=>⟨r,hv,?_⟩):a00 prog n06 #[s.v,(Fn0.mk).val Y0a] V λv _=>v = .bool (!ps.all P3.real)).mono λv V1 l1 hv=>⟨_,hv,?_⟩)
 . congr 1
   rw[Bool.eq_iff_iff,decide_eq_true_eq,ge_iff_le,hr]
   simp only[Bool.not_eq_true',List.all_eq_false,Bool.not_eq_true]
 . rw[Bool.not_not]
theorem y0s{V:View}{s:A05}{p:P3}(h:w08 V s p){b:Nat}(hb:V b=some s.val.cells):a00 prog a0g #[(Sl.mk (some (Addr.mk b 0 none)) 1 1).v] V λv _=>v = .bool p.real:=by
 refine(s0j (ps:=[p]) (y00.of_block (o:=s.val.cells.toList) (o':=[]) (b:=b) (λ_=>by simpa using hb) (S01.one rfl ⟨s,rfl,h⟩) rfl (Nat.le_refl _) (λ_=>rfl)) (by show 1<=2^40; decide)).mono λv V1 _ hv => ?_
 rw[hv]; simp
theorem D0g{V:View}{s:i06}{f:F3}(h:i0e V s f):a00 prog E0e #[s.val] V λv _=>v = .bool f.real:=by
 refine c0e s V _ λb1 V1 l1 _ hb1 => ?_
 have hC:S01 15 k0n V1 (s.o.val.cells.toList++(s.u.val.cells.toList++s.v.val.cells.toList)) [f.o,f.u,f.v] :=
  ⟨_,_,rfl,rfl,⟨s.o,rfl,h.o.le l1⟩,_,_,rfl,rfl,⟨s.u,rfl,h.u.le l1⟩,_,[],by simp,rfl,⟨s.v,rfl,h.v.le l1⟩,rfl⟩
 refine(s0j (ps:=[f.o,f.u,f.v]) (y00.of_block (o:=s.o.val.cells.toList++(s.u.val.cells.toList++s.v.val.cells.toList)) (o':=[]) (b:=b1) (λ_=>by rw[List.append_nil]; exact hb1) hC rfl (Nat.le_refl _) (λ_=>rfl)) (by show 3<=2^40; decide)).mono λv V2 l2 hv=>⟨_,hv,?_⟩
 simp[F3.real]
theorem X0t{V:View}{a b:A05}{p q:P3}{S T:Nat}(hp:w08 V a p)(hq:w08 V b q)(sp:p.szle S)(sq:q.szle T)(hS:S+T<=2^37) :
 a00 prog m0p #[a.val,b.val] V λv V'=>∃r:NumV,v=r.val/\l01 V' r (dotP p q):=by
 obtain⟨s1,s2,s3⟩:=sp
 obtain⟨t1,t2,t3⟩:=sq
 have a1:=j03 p.x q.x; have a2:=j03 p.y q.y; have a3:=j03 p.z q.z
 have b1:=F0b (p.x*q.x) (p.y*q.y)
 refine b0n a b V _ ((e03 hp.x hq.x (by omega) (by omega)).mono λv V1 l1 ⟨r1,hv,h1⟩=>⟨r1,hv,?_⟩)
 refine(e03 (hp.y.le l1) (hq.y.le l1) (by omega) (by omega)).mono λv V2 l2 ⟨r2,hv,h2⟩=>⟨r2,hv,?_⟩
 refine(Z05 (h1.le l2) h2 (by omega) (by omega)).mono λv V3 l3 ⟨r3,hv,h3⟩=>⟨r3,hv,?_⟩
 have L:=View.le_trans l1 (View.le_trans l2 l3)
 refine(e03 (hp.z.le L) (hq.z.le L) (by omega) (by omega)).mono λv V4 l4 ⟨r4,hv,h4⟩=>⟨r4,hv,?_⟩
 exact(Z05 (h3.le l4) h4 (by omega) (by omega)).mono λv V5 l5 ⟨r5,hv,h5⟩=>⟨r5,hv,r5,rfl,h5⟩
theorem N0f{V:View}{n:Int}(h0 : -9223372036854775808<=n)(h1:n<=9223372036854775807):a00 prog d0l #[.int .i64 n] V λv V'=>∃r:NumV,v=r.val/\l01 V' r ⟨(n:Rat),0⟩ :=
 T0j n V _ ((Y05 h0 h1).mono λv V1 l1 ⟨r1,hv,h1⟩=>⟨r1,hv,r1,rfl,h1⟩)
theorem z0s{V:View}{s:i06}{f:F3}{S:Nat}(h:i0e V s f)(sf:f.szle S)(hS:S<=2^36) :
 a00 prog F0m #[s.val] V λv V'=>∃r:NumV,v = .tuple #[r.val,.int .i64 (if f.real=true then 0 else 1)]/\l01 V' r (if f.real=true then dotP f.u f.v else Cq.zero):=by
 refine w0l s V _ ((D0g h).mono λv V1 l1 hv=>⟨_,hv,λhr => ?_,λhr => ?_⟩)
 . have e:f.real=false:=by simpa using hr
   rw[e]; exact⟨zN,rfl,l01.zero V1⟩
 . have e:f.real=true:=by simpa using hr
   rw[e]
   exact(X0t (h.u.le l1) (h.v.le l1) sf.u sf.v (by omega)).mono λv V2 l2 ⟨r2,hv,h2⟩=>⟨r2,hv,r2,rfl,h2⟩
structure Mk where
 i:Int
 j:Int
 p:P3
def Mk.in64(m:Mk):Prop:=(-9223372036854775808<=m.i/\m.i<=9223372036854775807)/\(-9223372036854775808<=m.j/\m.j<=9223372036854775807)
structure A0w (V:View) (s:u0f) (m:Mk):Prop where
 i:s.i=m.i
 j:s.j=m.j
 p:w08 V s.at_ m.p
def p0q(V:View)(x:List Value)(m:Mk):Prop:=∃s:u0f,x=s.val.cells.toList/\A0w V s m
theorem p0q.le{V V':View}(hle:V.le V')(x:List Value)(m:Mk)(h:p0q V x m):p0q V' x m:=by
 obtain⟨s,e,h1,h2,h3⟩:=h; exact⟨s,e,h1,h2,h3.le hle⟩
def O0h(V:View)(s:Sl)(ms:List Mk):Prop:=y00 17 p0q V s ms
theorem O0h.le{V V':View}(hle:V.le V'){s:Sl}{ms:List Mk}(h:O0h V s ms):O0h V' s ms:=y00.le (p0q.le hle) hle h
def intQ(n:Int):Cq:=⟨(n:Rat),0⟩
theorem k0c{n:Int}(h : -9223372036854775808<=n/\n<=9223372036854775807):(intQ n).sz<=64:=by
 refine(Rep.ofInt n).sz (k:=64) ?_ (by decide) (by decide)
 exact W03 (by omega)
def A0s(p:P3)(a:Nat):Cq:=if a=0 then p.x else if a=1 then p.y else p.z
def mkD:Mk:=⟨0,0,P3.zero⟩
def fitA(ms:List Mk):Nat->Nat->Cq:=λr k=>if k=0 then intQ 1 else if k=1 then intQ (ms.getD r mkD).i else intQ (ms.getD r mkD).j
def fitB(ms:List Mk)(a:Nat):Nat->Cq:=λr=>A0s (ms.getD r mkD).p a
def fitX(ms:List Mk)(a:Nat):Nat->Cq:=C0b numO Cq.zero (elim numO 3 4 (augN 3 (nrmA ms.length (fitA ms)) (nrmB ms.length (fitA ms) (fitB ms a)))).1 3 3
def fitF(ms:List Mk):F3:=⟨⟨fitX ms 0 0,fitX ms 1 0,fitX ms 2 0⟩,⟨fitX ms 0 1,fitX ms 1 1,fitX ms 2 1⟩,⟨fitX ms 0 2,fitX ms 1 2,fitX ms 2 2⟩⟩
def g0m(ms:List Mk):Cq:=detD 3 (nrmA ms.length (fitA ms))
def fitE(ms:List Mk):Int:=if ms.length<3\/32<ms.length then 4 else if ms.all (λm=>m.p.real)=true then(if g0m ms=Cq.zero then 6 else 0)else 1
theorem x0v(ms:List Mk)(a:Nat):detD 3 (augN 3 (nrmA ms.length (fitA ms)) (nrmB ms.length (fitA ms) (fitB ms a)))=g0m ms:=rfl
theorem P0h{n:Nat}(hn:n<=32):(1+n*(2*1100+2)+2)*6^3+3*((1+n*(2*1100+2)+2)*6^3+Xb ((1+n*(2*1100+2)+2)*6^3) 3+2)<=2^36/\Xb ((1+n*(2*1100+2)+2)*6^3) 3<=2^32:=by
 have hT:(1+n*(2*1100+2)+2)*6^3<=15300000:=by omega
 generalize (1+n*(2*1100+2)+2)*6^3=T at *
 have e:Xb T 3<=204*T+408:=by simp only[Xb]; omega
 omega
theorem y0v{ms:List Mk}(h:∀m∈ms,m.in64)(r k:Nat):(fitA ms r k).sz<=64:=by
 have hd:(ms.getD r mkD).in64:=by
  rcases Nat.lt_or_ge r ms.length with g|g
  . have e:ms.getD r mkD=ms[r]:=by simp[List.getD,g]
    rw[e]; exact h _ (List.getElem_mem g)
  . have e:ms.getD r mkD=mkD:=by simp[List.getD,g]
    rw[e]; exact⟨⟨by show(-9223372036854775808:Int)<=0; decide,by show(0:Int)<=9223372036854775807; decide⟩,⟨by show(-9223372036854775808:Int)<=0; decide,by show(0:Int)<=9223372036854775807; decide⟩⟩
 unfold fitA
 split
 . exact k0c ⟨by decide,by decide⟩
 . split
   . exact k0c hd.1
   . exact k0c hd.2
theorem Q0h{ms:List Mk}{r:Nat}(h:r<ms.length):ms[r]?=some (ms.getD r mkD):=by simp[List.getD,h]
theorem q0q{V:View}{s:A05}{p:P3}(h:w08 V s p){a:Nat}(ha:a<3) :
 ∃y:NumV,List.take 5 (List.drop (a*5) (s.x.val.cells.toList++(s.y.val.cells.toList++s.z.val.cells.toList)))=y.val.cells.toList/\l01 V y (A0s p a):=by
 obtain⟨x,⟨y,rfl,hy⟩,_,hg⟩:=(s0u h.x h.y h.z).at (i:=a) (z:=A0s p a) (by
  have:a=0\/a=1\/a=2:=by omega
  rcases this with rfl|rfl|rfl<;>rfl)
 rw[Nat.zero_add]at hg
 exact⟨y,hg,hy⟩
theorem z0v{p:P3}{S:Nat}(h:p.szle S)(a:Nat):(A0s p a).sz<=S:=by
 unfold A0s
 split
 . exact h.1
 . split
   . exact h.2.1
   . exact h.2.2
theorem O0f{V:View}{o:List Value}{g:Nat->Cq}(h:S01 5 numC V o (rowL 9 g))(k:Nat)(hk:k<3) :
 ∃a:G05,List.take 15 (List.drop (k*15) o)=a.val.cells.toList/\l01 V a.e0 (g (3*k))/\l01 V a.e1 (g (3*k+1))/\l01 V a.e2 (g (3*k+2)):=by
 have h1:=(h.drop (3*k)).take 3
 have e:List.take 3 (List.drop (3*k) (rowL 9 g))=[g (3*k),g (3*k+1),g (3*k+2)]:=by
  have:k=0\/k=1\/k=2:=by omega
  rcases this with rfl|rfl|rfl<;>rfl
 have e1:3*k*5=k*15:=by omega
 rw[e,e1]at h1
 obtain⟨a,ho,h2,h3,h4⟩:=P0r h1
 exact⟨a,ho,h2,h3,h4⟩
def q0c(ms:List Mk)(a k:Nat):Nat->Cq:=λq=>if q%3<a\/(q%3=a/\q / 3<k)then fitX ms (q%3) (q / 3)else Cq.zero
theorem A0v(ms:List Mk)(r:Nat):rowL 3 (fitA ms r)=[intQ 1,intQ (ms.getD r mkD).i,intQ (ms.getD r mkD).j]:=rfl
theorem B0w{V:View}{b:Nat}{a1 a2 a3:NumV}{x y z:Cq}(hb:V b=some (a1.val.cells.toList++(a2.val.cells.toList++a3.val.cells.toList)).toArray)(h1:l01 V a1 x)(h2:l01 V a2 y)(h3:l01 V a3 z) :
 y00 5 numC V ⟨some ⟨b,0,none⟩,3,3⟩ [x,y,z] :=
 y00.of_block (o:=a1.val.cells.toList++(a2.val.cells.toList++a3.val.cells.toList)) (o':=[]) (b:=b) (λ_=>by rw[List.append_nil]; exact hb) (s0u h1 h2 h3) rfl (Nat.le_refl _) (λ_=>rfl)
set_option maxHeartbeats 1000000 in
theorem Y0t{V:View}{s:Sl}{ms:List Mk}(h:O0h V s ms)(hi:∀m∈ms,m.in64)(hz:∀m∈ms,m.p.szle 1100) :
 a00 prog f0p #[s.v] V λv V'=>∃r:i06,v = .tuple #[r.val,.int .i64 (fitE ms)]/\i0e V' r (if fitE ms=0 then fitF ms else F3.zero) /\
  (fitE ms=0->(fitF ms).szle (2^32)):=by
 have hl:s.len=ms.length:=h.len
 let n:=ms.length
 let A:=fitA ms
 have nil:∀(e:Int) (V':View),fitE ms=e->e≠0->∃r:i06,Value.tuple #[(i06.mk ⟨zN,zN,zN⟩ ⟨zN,zN,zN⟩ ⟨zN,zN,zN⟩).val,.int .i64 e]=Value.tuple #[r.val,.int .i64 (fitE ms)] /\
  i0e V' r (if fitE ms=0 then fitF ms else F3.zero)/\(fitE ms=0->(fitF ms).szle (2^32)):=λe V' he hne=>by
  rw[he,if_neg hne]; exact⟨_,rfl,i0e.zero V',λh=>absurd h hne⟩
 let rowN:View->List Value->List Cq->Prop:=λV x row=>∃s:Sl,x=[s.v]/\y00 5 numC V s row
 have rowN_le:∀ {V V':View},V.le V'->∀x row,rowN V x row->rowN V' x row:=λhle x row ⟨s,e,hs⟩=>⟨s,e,l02.le hle hs⟩
 refine c0n s V _ (λ_ _ _=>3<=n/\n<=32)
  (λ_ x V'=>∃(t:Nat) (l:List Value),x.t26=t/\t<=n/\C03 1 x.t4l x.t4c x.o4 l/\x.t4l=t/\S01 1 rowN V' l (matL t 3 A)/\∀m∈ms.take t,m.p.real=true) (λ_ x _=>n-x.t26.toNat)
  (λ_ x V'=>∃a:Nat,x.t48=a/\a<=3/\S01 5 numC V' x.o7 (rowL 9 (q0c ms a 0))/\(0<a->g0m ms≠Cq.zero/\∀b,b<a->∀k,k<3->(fitX ms b k).sz<=2^32)) (λ_ x _=>3-x.t48.toNat)
  (λc x V'=>∃(a t:Nat) (l:List Value),c.t48=a/\a<3/\x.t53=t/\t<=n/\C03 5 x.t9l x.t9c x.o9 l/\x.t9l=t/\S01 5 numC V' l (rowL t (fitB ms a))/\S01 5 numC V' x.o7 (rowL 9 (q0c ms a 0))) (λ_ x _=>n-x.t53.toNat)
  (λc x V'=>∃a k:Nat,c.t48=a/\a<3/\x.t77=k/\k<=3/\S01 5 numC V' x.o7 (rowL 9 (q0c ms a k))) (λ_ x _=>3-x.t77.toNat) ?_
 rw[hl]
 refine⟨⟨λh3=>nil 4 V ?_ (by decide),λh3=>⟨λh4=>nil 4 V ?_ (by decide),λh4 => ?_⟩⟩,?_⟩
 . unfold fitE; rw[if_pos (.inl (by simp at h3; omega))]
 . unfold fitE; rw[if_pos (.inr (by simp at h4; omega))]
 . exact⟨by simp at h3; omega,by simp at h4; omega⟩
 rintro⟨o2⟩ V1 l1 ⟨hn3,hn32⟩
 have hn3:3<=ms.length:=hn3
 have hn32:ms.length<=32:=hn32
 refine⟨⟨0,[],rfl,by omega,C03.nil,rfl,rfl,by simp⟩,?_⟩
 rintro⟨t4l,t4c,t26,o2',o4⟩ V2 l2 ⟨t,l,et,ht,hL,e4,hC,hreal⟩
 dsimp only at et hL e4 hC ⊢
 subst et; subst e4
 have L2:=View.le_trans l1 l2
 refine⟨λhlt => ?_,λhge => ?_⟩
 . have hk:t4l<ms.length:=by simp at hlt; omega
   obtain⟨g1,x,⟨m,rfl,hm⟩,_,hh,hs⟩:=y00.get (h.le L2) (t:=(t4l:Int)) (by omega) (z:=ms.getD t4l mkD) (by rw[Int.toNat_natCast]; exact Q0h hk)
   rw[hl]at g1
   have hmem:ms.getD t4l mkD∈ms:=List.mem_of_getElem? (Q0h hk)
   obtain⟨i1,i2⟩:=hi _ hmem
   refine⟨g1,m,hh,hs,λb1 V3 l3 _ hb1=>(y0s (hm.p.le l3) hb1).mono λv V4 l4 hv=>⟨_,hv,λhr=>nil 1 V4 ?_ (by decide),λhr => ?_⟩⟩
   . have e:(ms.getD t4l mkD).p.real=false:=by simpa using hr
     unfold fitE
     rw[if_neg (by omega),if_neg (by
      intro hall
      rw[List.all_eq_true]at hall
      rw[hall _ hmem]at e; simp at e)]
   . have hre:(ms.getD t4l mkD).p.real=true:=by simpa using hr
     refine(N0f (by omega) (by omega)).mono λv V5 l5 ⟨r2,hv,h2⟩=>⟨r2,hv,?_⟩
     rw[hm.i,hm.j]
     refine(N0f i1.1 i1.2).mono λv V6 l6 ⟨r3,hv,h3⟩=>⟨r3,hv,?_⟩
     refine(N0f i2.1 i2.2).mono λv V7 l7 ⟨r4,hv,h4⟩=>⟨r4,hv,λb2 V8 l8 _ hb2 b3 V9 l9 _ hb3 => ?_⟩
     have M9:=View.le_trans l8 l9
     have hrow:y00 5 numC V9 ⟨some ⟨b2,0,none⟩,3,3⟩ (rowL 3 (fitA ms t4l)):=by
      rw[A0v]
      exact B0w (l9 _ _ hb2) (h2.le (View.le_trans l6 (View.le_trans l7 M9))) (h3.le (View.le_trans l7 M9)) (h4.le M9)
     have hnew:V9.has (some (Addr.mk b3 0 none)) [Value.slice (some ⟨b2,0,none⟩) 3 3]:=P04 (cs:=[Value.slice (some ⟨b2,0,none⟩) 3 3]) (j:=0) hb3 (λi v hv=>by rw[Nat.zero_add]; exact hv) rfl
     refine⟨l,_,hL,hnew,rfl,by intro v hv; simp at hv; subst hv; rfl,by unfold maxLen; omega,by omega,λc1 l3' hl3 => ?_⟩
     rw[i64w (by omega) (by omega)]
     refine⟨⟨t4l+1,_,by omega,hk,hl3,rfl,?_,λq hq => ?_⟩,by omega⟩
     . have e:matL (t4l+1) 3 A=matL t4l 3 A++[rowL 3 (A t4l)]:=by simp[matL,List.range_succ]
       rw[e]
       exact(hC.imp (rowN_le (View.le_trans l3 (View.le_trans l4 (View.le_trans l5 (View.le_trans l6 (View.le_trans l7 M9))))))).append (S01.one rfl ⟨_,rfl,hrow⟩)
     . rw[List.take_add_one,Q0h hk]at hq
       simp only[Option.toList_some,List.mem_append,List.mem_singleton]at hq
       rcases hq with hq|hq
       . exact hreal q hq
       . subst hq; exact hre
 have et:t4l=ms.length:=by simp at hge; have:t4l<=ms.length:=ht; omega
 subst et
 rw[List.take_length]at hreal
 have hall:ms.all (λm=>m.p.real)=true:=List.all_eq_true.2 hreal
 intro b4 V10 l10 hb4
 have hM:X00 5 numC V10 ⟨lstA b4 t4c,ms.length,t4c⟩ (matL ms.length 3 A):=z06 hL hb4 (hC.imp (rowN_le l10)) (by rw[w00])
 have L10:=View.le_trans L2 l10
 refine⟨⟨0,rfl,by omega,?_,λh=>absurd h (by omega)⟩,?_⟩
 . have e:rowL 9 (q0c ms 0 0)=List.replicate 9 Cq.zero:=by
     rw[<-y0d]; exact x03 λq _=>by unfold q0c; rw[if_neg (by omega)]
   rw[e]; exact u05.zeros V10 9
 rintro⟨t48,o2'',o7⟩ V11 l11 ⟨a,ea,ha,hP,hdone⟩
 dsimp only at ea hP ⊢
 subst ea
 have L11:=View.le_trans L10 l11
 refine⟨λhlt=>⟨⟨a,0,[],rfl,by simp at hlt; omega,rfl,by omega,C03.nil,rfl,rfl,hP⟩,?_⟩,λhge => ?_⟩
 . have ha3:a<3:=by simp at hlt; omega
   rintro⟨t9l,t9c,t53,o2x,o7',o9⟩ V12 l12 ⟨a',t,lb,ea,_,et,ht,hLb,e9,hCb,hP'⟩
   dsimp only at ea et hLb e9 hCb hP' ⊢
   obtain rfl:a=a':=by omega
   subst et; subst e9
   have L12:=View.le_trans L11 l12
   refine⟨λhlt2 => ?_,λhge2 => ?_⟩
   . have hk:t9l<ms.length:=by simp at hlt2; omega
     obtain⟨g1,x,⟨m,rfl,hm⟩,_,hh,hs⟩:=y00.get (h.le L12) (t:=(t9l:Int)) (by omega) (z:=ms.getD t9l mkD) (by rw[Int.toNat_natCast]; exact Q0h hk)
     rw[hl]at g1
     refine⟨g1,m,hh,hs,(x0s m.at_).mono λv V13 l13 hv=>⟨_,hv,⟨by omega,by omega⟩,?_⟩⟩
     obtain⟨y,hy1,hy2⟩:=q0q (hm.p.le l13) ha3
     refine⟨y,by rw[Int.toNat_natCast]; exact hy1,λb5 V14 l14 _ hb5 => ?_⟩
     have hnew:V14.has (some (Addr.mk b5 0 none)) y.val.cells.toList:=P04 (cs:=y.val.cells.toList) (j:=0) hb5 (λi v hv=>by rw[Nat.zero_add]; exact hv) rfl
     have hyc:numC V14 y.val.cells.toList (fitB ms a t9l):=⟨y,rfl,hy2.le l14⟩
     refine⟨lb,_,hLb,hnew,rfl,oneN hyc,by unfold maxLen; omega,by omega,λc2 l6 hl6 => ?_⟩
     rw[i64w (by omega) (by omega)]
     have M14:=View.le_trans l13 l14
     refine⟨⟨a,t9l+1,_,rfl,ha3,by omega,hk,hl6,rfl,?_,hP'.imp (numC.le M14)⟩,by omega⟩
     rw[<-m0a]
     exact(hCb.imp (numC.le M14)).append (S01.one rfl hyc)
   . have et:t9l=ms.length:=by simp at hge2; have:t9l<=ms.length:=ht; omega
     subst et
     intro b6 V15 l15 hb6
     have hb:l02 V15 ⟨lstA b6 t9c,ms.length,t9c⟩ (rowL ms.length (fitB ms a)):=z06 hLb hb6 (hCb.imp (numC.le l15)) (by rw[k00])
     have M15:=View.le_trans l11 (View.le_trans l12 l15)
     have sB:∀r,r<ms.length->(fitB ms a r).sz<=1100:=λr hr=>z0v (hz _ (List.mem_of_getElem? (Q0h hr))) a
     refine(o0q 1100 (hM.le numC.le M15) hb (by omega) hn32 (by omega) (λr k _ _=>Nat.le_trans (y0v hi r k) (by omega)) sB _ rfl (P0h hn32).1 (Nat.le_trans (P0h hn32).2 (by decide))).mono λv V16 l16 ⟨r6,h6⟩ => ?_
     have hiff:=x0t (n:=3) (w:=4) (by omega) (by omega) (by omega) (augN 3 (nrmA ms.length (fitA ms)) (nrmB ms.length (fitA ms) (fitB ms a)))
     rw[x0v]at hiff
     cases hst:(elim numO 3 4 (augN 3 (nrmA ms.length (fitA ms)) (nrmB ms.length (fitA ms) (fitB ms a)))).2.2 with
     | some c =>
       rw[show(elim numO 3 (3+1) (augN 3 (nrmA ms.length A) (nrmB ms.length A (fitB ms a)))).2.2=some c from hst]at h6
       obtain⟨hv,hr⟩:=h6
       have hd:g0m ms=Cq.zero:=Classical.byContradiction λg=>by rw[hiff.2 g]at hst; simp at hst
       refine⟨r6,6,hv,λ_=>nil 6 V16 ?_ (by decide),λhf=>by simp at hf⟩
       unfold fitE
       rw[if_neg (by omega),if_pos hall,if_pos hd]
     | none =>
       rw[show(elim numO 3 (3+1) (augN 3 (nrmA ms.length A) (nrmB ms.length A (fitB ms a)))).2.2=none from hst]at h6
       obtain⟨hv,hx,hsz⟩:=h6
       have hx:l02 V16 r6 (rowL 3 (fitX ms a)):=hx
       have hxl:r6.len=3:=by have:=hx.len; rw[k00]at this; exact this
       have hd:g0m ms≠Cq.zero:=hiff.1 hst
       refine⟨r6,0,hv,λhf=>by simp at hf,λ_=>⟨⟨a,0,rfl,ha3,rfl,by omega,hP'.imp (numC.le (View.le_trans l15 l16))⟩,?_⟩⟩
       rintro⟨t77,o7''⟩ V17 l17 ⟨a',k,ea,_,ek,hk3,hP3⟩
       dsimp only at ea ek hP3 ⊢
       obtain rfl:a=a':=by omega
       subst ek
       rw[hxl]
       refine⟨λhlt3 => ?_,λhge3 => ?_⟩
       . have hk:k<3:=by simp at hlt3; omega
         obtain⟨d1,y,hh,hs,hy⟩:=(hx.le l17).get (t:=(k:Int)) (by omega) (by rw[k00,Int.toNat_natCast]; exact hk)
         rw[hxl]at d1
         have hyk:l01 V17 y (fitX ms a k):=by
          have e:nth (rowL 3 (fitX ms a)) (Int.toNat (k:Int))=fitX ms a k:=by rw[Int.toNat_natCast]; exact d0c hk _
          rw[e]at hy; exact hy
         refine⟨d1,y,hh,hs,⟨by omega,by omega⟩,⟨by omega,by omega⟩,?_,?_⟩
         . rw[hP3.length,k00,Int.toNat_natCast,Int.toNat_natCast]; omega
         . rw[i64w (by omega) (by omega)]
           refine⟨⟨a,k+1,rfl,ha3,by omega,by omega,?_⟩,by omega⟩
           have hset:=hP3.set0 (i:=3*k+a) (by rw[k00]; omega) (lenN y) (F0t hyk)
           rw[x0d]at hset
           rw[Int.toNat_natCast,Int.toNat_natCast]
           have e1:0+(3*k+a)*5=0+k*15+a*5:=by omega
           rw[e1]at hset
           rw[x03 (g:=q0c ms a (k+1)) (λq hq=>by
            unfold q0c
            by_cases e:q=3*k+a
            . subst e
              have m1:(3*k+a)%3=a:=by omega
              have m2:(3*k+a) / 3=k:=by omega
              rw[if_pos rfl,m1,m2,if_pos (by omega)]
            . rw[if_neg e]
              by_cases c:q%3<a\/(q%3=a/\q / 3<k)
              . rw[if_pos c,if_pos (by omega)]
              . rw[if_neg c,if_neg (by omega)])]at hset
           exact hset
       . have ek:k=3:=by simp at hge3; omega
         subst ek
         rw[i64w (by omega) (by omega)]
         refine⟨⟨a+1,by omega,by omega,?_,λ_=>⟨hd,λb hb k hk => ?_⟩⟩,by omega⟩
         . rw[x03 (g:=q0c ms a 3) (λq hq=>by
             unfold q0c
             by_cases c:q%3<a+1\/(q%3=a+1/\q / 3<0)
             . rw[if_pos c,if_pos (by omega)]
             . rw[if_neg c,if_neg (by omega)])]
           exact hP3
         . by_cases e:b<a
           . exact(hdone (by omega)).2 b e k hk
           . have:b=a:=by omega
             subst this
             have:=hsz k hk
             exact Nat.le_trans this (P0h hn32).2
 . have ea:a=3:=by simp at hge; omega
   subst ea
   obtain⟨hd,hsz⟩:=hdone (by omega)
   have hE:fitE ms=0:=by unfold fitE; rw[if_neg (by omega),if_pos hall,if_neg hd]
   have hg:∀k c,k<3->c<3->q0c ms 3 0 (3*k+c)=fitX ms c k:=λk c hk hc=>by
    unfold q0c
    have m1:(3*k+c)%3=c:=by omega
    have m2:(3*k+c) / 3=k:=by omega
    rw[m1,m2,if_pos (by omega)]
   obtain⟨a0,o0,p00,p01,p02⟩:=O0f hP 0 (by omega)
   obtain⟨a1,o1,p10,p11,p12⟩:=O0f hP 1 (by omega)
   obtain⟨a2,o2,p20,p21,p22⟩:=O0f hP 2 (by omega)
   refine⟨⟨by omega,by omega⟩,a0,o0,⟨by omega,by omega⟩,a1,o1,⟨by omega,by omega⟩,a2,o2,?_⟩
   refine(N0h a0).mono λv V18 l18 hv=>⟨_,hv,(N0h a1).mono λv V19 l19 hv=>⟨_,hv,(N0h a2).mono λv V20 l20 hv=>⟨_,hv,⟨⟨a0.e0,a0.e1,a0.e2⟩,⟨a1.e0,a1.e1,a1.e2⟩,⟨a2.e0,a2.e1,a2.e2⟩⟩,?_,?_,?_⟩⟩⟩
   . rw[hE]
   . rw[hE,if_pos rfl]
     have K:=View.le_trans l18 (View.le_trans l19 l20)
     have g:=λk c hk hc (x:NumV) (hx:l01 V11 x (q0c ms 3 0 (3*k+c)))=>(show l01 V20 x (fitX ms c k)from by rw[hg k c hk hc]at hx; exact hx.le K)
     exact⟨⟨g 0 0 (by omega) (by omega) _ p00,g 0 1 (by omega) (by omega) _ p01,g 0 2 (by omega) (by omega) _ p02⟩,⟨g 1 0 (by omega) (by omega) _ p10,g 1 1 (by omega) (by omega) _ p11,g 1 2 (by omega) (by omega) _ p12⟩,
      ⟨g 2 0 (by omega) (by omega) _ p20,g 2 1 (by omega) (by omega) _ p21,g 2 2 (by omega) (by omega) _ p22⟩⟩
   . intro _
     exact⟨⟨hsz 0 (by omega) 0 (by omega),hsz 1 (by omega) 0 (by omega),hsz 2 (by omega) 0 (by omega)⟩,⟨hsz 0 (by omega) 1 (by omega),hsz 1 (by omega) 1 (by omega),hsz 2 (by omega) 1 (by omega)⟩,⟨hsz 0 (by omega) 2 (by omega),hsz 1 (by omega) 2 (by omega),hsz 2 (by omega) 2 (by omega)⟩⟩
theorem B0s(D:Nat):(0:Rat)=((0:Int):Rat) / (D:Rat):=by simp[Rat.div_def]
theorem C0s{V:View}{a b c:NumV}{x y z:Cq}{S:Nat}(ha:l01 V a x)(hb:l01 V b y)(hc:l01 V c z)(sx:x.sz<=S)(sy:y.sz<=S)(sz:z.sz<=S)(hS:S<=2^30) :
 a00 prog L0m #[a.val,b.val,c.val] V λv V'=>∃r:NumV,v=r.val/\l01 V' r (H0l x y z):=by
 have s1:=o08 x y; have s2:=o08 z y
 refine x0l a b c V _ ((c07 ha hb (by omega) (by omega)).mono λv V1 l1 ⟨r1,hv,h1⟩=>⟨r1,hv,?_⟩)
 refine(c07 (hc.le l1) (hb.le l1) (by omega) (by omega)).mono λv V2 l2 ⟨r2,hv,h2⟩=>⟨r2,hv,?_⟩
 refine(c0d (h1.le l2) h2 (by omega) (by omega)).mono λv V3 l3 ⟨r3,e,hv,hz,hn⟩=>⟨r3,e,hv,r3,rfl,?_⟩
 by_cases g:z-y=Cq.zero
 . have e1:H0l x y z=Cq.zero:=by
     unfold H0l; rw[g]
     refine Cq.ext' ?_ ?_<;>simp only[Cq.div,Cq.norm,Cq.zero,Rat.mul_zero,Rat.add_zero,Rat.div_def,Rat.inv_zero]
   rw[e1]; exact(hz g).2
 . exact(hn g).2
theorem i0m{V:View}{a b c:NumV}{x y z:Cq}{S:Nat}(ha:l01 V a x)(hb:l01 V b y)(hc:l01 V c z)(sx:x.sz<=S)(sy:y.sz<=S)(sz:z.sz<=S)(hS:S<=2^34) :
 a00 prog d0i #[a.val,b.val,c.val] V λv V'=>∃r:NumV,v=r.val/\l01 V' r (n0k x y z):=by
 have s1:=o08 y x; have s2:=j03 z (y-x)
 refine n0h a b c V _ ((c07 hb ha (by omega) (by omega)).mono λv V1 l1 ⟨r1,hv,h1⟩=>⟨r1,hv,?_⟩)
 refine(e03 (hc.le l1) h1 (by omega) (by omega)).mono λv V2 l2 ⟨r2,hv,h2⟩=>⟨r2,hv,?_⟩
 exact(Z05 (ha.le (View.le_trans l1 l2)) h2 (by omega) (by omega)).mono λv V3 l3 ⟨r3,hv,h3⟩=>⟨r3,hv,r3,rfl,h3⟩
theorem C0k{V:View}{s:Sl}{l:List Tk}(h:d0b V s l){p:Option Addr}(hp:V.load p=some s.v){t:Nat}{k:Tk}(hk:l[t]?=some k) :
 a00 prog m0c #[.int .i64 (t:Int),.pointer p] V λv V'=>∃r:NumV,v = .tuple #[r.val,.bool (decide (k.place.im=0))]/\l01 V' r k.time:=by
 obtain⟨g,y,hy,_,hs,⟨h1,g1⟩,h2,g2⟩:=U0e h (t:=(t:Int)) (by omega) (k:=k) (by rw[Int.toNat_natCast]; exact hk)
 refine A0f (t:Int) p V _ ⟨s,hp,g,hs,y.time,h1,g1,s,hp,g,hs,y.place,h2,g2,?_⟩
 exact(y06 hy.place).mono λv V1 l1 hv=>⟨_,hv,_,rfl,hy.time.le l1⟩
theorem q0i{V:View}{s:Sl}{l:List Tk}(h:d0b V s l){S:Nat}(hz:∀k∈l,k.szle S)(hS:S<=2^30){p:Option Addr}(hp:V.load p=some s.v) :
 a00 prog w0g #[.int .i64 (s.len:Int),(Fn1.mk p).val m0c] V λv _=>∃r:Int,v = .int .i64 r/\r=G0f l:=by
 have hl:s.len=l.length:=h.len
 refine d08 (s.len:Int) ⟨p⟩ V _ (λ_ _ _=>1<=l.length/\l.length<=4096)
  (λ_ x V'=>∃t:Nat,x.t16=t/\t<=l.length/\(∀k,y0g l t=some k->l01 V' x.o5 k.time/\k.time.im=0)/\ascF none l=ascF ((y0g l t).map λk=>k.time.re) (l.drop t)) (λ_ x _=>l.length-x.t16.toNat) ?_
 rw[hl]
 refine⟨⟨λh0=>⟨_,rfl,?_⟩,λh0=>⟨λh1=>⟨_,rfl,?_⟩,λh1 => ?_⟩⟩,?_⟩
 . unfold G0f; rw[if_pos (.inl (by simpa using h0))]
 . unfold G0f; rw[if_pos (.inr (by simp at h1; omega))]
 . have h0:l.length≠0:=by simpa using h0
   exact⟨by omega,by simp at h1; omega⟩
 rintro⟨u⟩ V1 l1 ⟨hn1,hn2⟩
 refine⟨⟨0,rfl,by omega,λk hk=>by simp[y0g]at hk,rfl⟩,?_⟩
 rw[U0r hn1 hn2]
 rintro⟨t16,o5⟩ V2 l2 ⟨t,et,ht,ho,hE⟩
 dsimp only at et ho ⊢
 subst et
 have L2:=View.le_trans l1 l2
 refine⟨λhlt => ?_,λhge=>⟨_,rfl,?_⟩⟩
 . have hk:t<l.length:=by simp at hlt; omega
   have ek:l[t]?=some l[t]:=List.getElem?_eq_getElem hk
   have hmem:l[t]∈l:=List.getElem_mem hk
   obtain⟨zt,zp⟩:=hz _ hmem
   rw[l0n ek]at hE
   generalize hkk:l[t]=k at *
   refine(C0k (h.le L2) (y03 L2 hp) ek).mono λv V3 l3 ⟨r1,hv,h1⟩=>⟨r1,_,hv,λc=>⟨_,rfl,?_⟩,λc => ?_⟩
   . have c:¬k.place.im=0:=by simpa using c
     rw[hE]; unfold ascF; rw[if_pos (by unfold Tk.real; simp[c])]
   have c:k.place.im=0:=by simpa using c
   refine(y06 h1).mono λv V4 l4 hv=>⟨_,hv,λd=>⟨_,rfl,?_⟩,λd => ?_⟩
   . have d:¬k.time.im=0:=by simpa using d
     rw[hE]; unfold ascF; rw[if_pos (by unfold Tk.real; simp[d])]
   have d:k.time.im=0:=by simpa using d
   have hr:¬k.real=false:=by unfold Tk.real; simp[c,d]
   have step:∀V',View.le V4 V'->(∀q,y0g l t=some q->¬k.time.re<=q.time.re)->(∃t':Nat,i64.wrap ((t:Int)+1)=t'/\t'<=l.length/\(∀k,y0g l t'=some k->l01 V' r1 k.time/\k.time.im=0)/\ascF none l=ascF ((y0g l t').map λk=>k.time.re) (l.drop t'))/\l.length-(i64.wrap ((t:Int)+1)).toNat<l.length-(t:Int).toNat:=by
    intro V' l' hq
    rw[i64w (by omega) (by omega)]
    refine⟨⟨t+1,by omega,by omega,?_,?_⟩,by omega⟩
    . intro k' hk'
      rw[i0j,ek]at hk'
      obtain rfl:=Option.some.inj hk'
      exact⟨h1.le (View.le_trans l4 l'),d⟩
    . rw[hE,i0j,ek]
      conv=>lhs; unfold ascF
      rw[if_neg hr]
      cases hpa:y0g l t with
      | none=>rfl
      | some q =>
        simp only[Option.map_some]
        rw[if_neg (hq q hpa)]
   refine⟨λc0 => ?_,λc0=>step V4 (View.le_refl _) λq hq => ?_⟩
   . have hpos:0<t:=by simp at c0; omega
     have ep:l[t-1]?=some l[t-1]:=List.getElem?_eq_getElem (by omega)
     have hpa:y0g l t=some l[t-1]:=by unfold y0g; rw[if_neg (by omega),ep]
     obtain⟨ho1,ho2⟩:=ho _ hpa
     have zq:=(hz _ (List.getElem_mem (show t-1<l.length by omega))).1
     generalize l[t-1]=q at *
     refine(b0d (h1.le l4) (ho1.le (View.le_trans l3 l4)) (by omega) (by omega)).mono λv V5 l5 hv=>⟨_,hv,λe=>⟨_,rfl,?_⟩,λe=>step V5 l5 λq' hq' => ?_⟩
     . rw[k0o d ho2]at e
       have e:k.time.re<=q.time.re:=by
        rcases K0g k.time.re q.time.re with⟨g,_⟩|⟨g,_⟩|⟨_,g⟩
        . grind
        . grind
        . rw[g]at e; simp at e
       rw[hE,hpa]
       conv=>rhs; unfold ascF
       rw[if_neg hr]
       simp only[Option.map_some]
       rw[if_pos e]
     . rw[hpa]at hq'
       obtain rfl:=Option.some.inj hq'
       rw[k0o d ho2]at e
       rcases K0g k.time.re q.time.re with⟨_,g⟩|⟨_,g⟩|⟨g,_⟩
       . rw[g]at e; simp at e
       . rw[g]at e; simp at e
       . grind
   . have:t=0:=by simp at c0; omega
     subst this
     simp[y0g]at hq
 . have e:t=l.length:=by simp at hge; omega
   subst e
   rw[hE,List.drop_length]; rfl
theorem j0m{V:View}{s:Sl}{l:List Tk}(h:d0b V s l){S:Nat}(hz:∀k∈l,k.szle S)(hS:S<=2^30) :
 a00 prog c0i #[s.v] V λv _=>∃r:Int,v = .int .i64 r/\r=G0f l:=by
 refine o0h s V _ λb1 V1 l1 hb1 => ?_
 have hld:V1.load (some (Addr.mk b1 0 none))=some s.v:=by simp[View.load,hb1]
 exact⟨s,hld,(q0i (h.le l1) hz hS hld).mono λv V2 l2 ⟨r,hv,hr⟩=>⟨r,hv,r,rfl,hr⟩⟩
theorem k0m(z w:Cq) : -1<=z.cmp w/\z.cmp w<=1:=by
 unfold Cq.cmp
 split
 . rcases K0g z.re w.re with⟨_,g⟩|⟨_,g⟩|⟨_,g⟩<;>rw[g]<;>decide
 . rcases K0g z.im w.im with⟨_,g⟩|⟨_,g⟩|⟨_,g⟩<;>rw[g]<;>decide
theorem D0s{a b:Int}(ha : -1<=a/\a<=1)(hb : -1<=b/\b<=1):i64.wrap (a*b)=a*b:=by
 have h1:a = -1\/a=0\/a=1:=by omega
 have h2:b = -1\/b=0\/b=1:=by omega
 rcases h1 with rfl|rfl|rfl<;>rcases h2 with rfl|rfl|rfl<;>decide
theorem s0q{V:View}{s:Sl}{l:List Tk}(h:d0b V s l)(hn:1<=l.length)(hn2:l.length<=2^40){x:NumV}{p:Cq}(hx:l01 V x p){S:Nat}(hz:∀k∈l,k.szle S)(zp:p.sz<=S)(hS:S<=2^28) :
 a00 prog g0l #[s.v,x.val] V λv V'=>∃(r:NumV) (b:Bool),v = .tuple #[r.val,.bool b]/\b=(N0a p l).isSome/\l01 V' r ((N0a p l).getD Cq.zero):=by
 have hl:s.len=l.length:=h.len
 have ek:l[0]?=some l[0]:=List.getElem?_eq_getElem (by omega)
 obtain⟨g,y,hy,_,hs,⟨h1,g1⟩,h2,g2⟩:=U0e h (t:=0) (by omega) (k:=l[0]) ek
 obtain⟨z1,z2⟩:=hz _ (List.getElem_mem (show 0<l.length by omega))
 have e0:N0a p l=if l[0].place=p then some l[0].time else y0h p l[0] (l.drop 1):=by
  rw[show N0a p l=N0a p (l.drop 0)from rfl,l0n ek]; rfl
 refine U0j s x V _ (λ_ z _=>∃(i:Nat) (a:Tk),z.t6=i/\1<=i/\i<=l.length/\l[i-1]?=some a/\N0a p l=y0h p a (l.drop i)) (λ_ z _=>l.length-z.t6.toNat) ⟨g,hs,y.place,h2,g2,?_⟩
 refine(L09 hy.place hx (by omega) (by omega)).mono λv V1 l1 hv=>⟨_,hv,λc => ?_,λc=>⟨?_,?_⟩⟩
 . have c:l[0].place=p:=by simpa using c
   rw[e0,if_pos c]
   exact⟨g,hs,y.time,s0a l1 h1,g1,_,_,rfl,rfl,hy.time.le l1⟩
 . have c:¬l[0].place=p:=by simpa using c
   exact⟨1,l[0],rfl,by omega,by omega,ek,by rw[e0,if_neg c]⟩
 rintro⟨t6,o4⟩ V2 l2 ⟨i,a,ei,i1,i2,ea,hE⟩
 dsimp only at ei ⊢
 subst ei
 have L2:=View.le_trans l1 l2
 rw[hl]
 refine⟨λhlt => ?_,λhge => ?_⟩
 . have hk:i<l.length:=by simp at hlt; omega
   rw[i64w (n:=(i:Int)-1) (by omega) (by omega),i64w (n:=(i:Int)+1) (by omega) (by omega)]
   have eb:l[i]?=some l[i]:=List.getElem?_eq_getElem hk
   obtain⟨za1,za2⟩:=hz a (List.mem_of_getElem? ea)
   obtain⟨zb1,zb2⟩:=hz _ (List.getElem_mem hk)
   rw[l0n eb]at hE
   obtain⟨ga,ya,hya,hha,hsa,_⟩:=U0e (h.le L2) (t:=(i:Int)-1) (by omega) (k:=a) (by rw[show((i:Int)-1).toNat=i-1 by omega]; exact ea)
   obtain⟨gb,yb,hyb,hhb,hsb,_⟩:=U0e (h.le L2) (t:=(i:Int)) (by omega) (k:=l[i]) (by rw[Int.toNat_natCast]; exact eb)
   rw[hl]at ga gb
   generalize l[i]=b at *
   have step:y0h p b (l.drop (i+1))=N0a p l->(∃(j:Nat) (a:Tk),((i:Int)+1)=j/\1<=j/\j<=l.length/\l[j-1]?=some a/\N0a p l=y0h p a (l.drop j))/\l.length-((i:Int)+1).toNat<l.length-(i:Int).toNat :=
    λhe=>⟨⟨i+1,b,by omega,by omega,by omega,by rw[Nat.add_sub_cancel]; exact eb,he.symm⟩,by omega⟩
   have eF:N0a p l=if 0<(a.place.cmp p)*(b.place.cmp p)\/a.place=b.place then y0h p b (l.drop (i+1))else some (n0k a.time b.time (H0l p a.place b.place)):=hE
   have hxx:=hx.le L2
   refine⟨ga,ya,hha,hsa,gb,yb,hhb,hsb,(b0d hya.place hxx (by omega) (by omega)).mono λv V3 l3 hv=>⟨_,hv,?_⟩⟩
   refine(b0d (hyb.place.le l3) (hxx.le l3) (by omega) (by omega)).mono λv V4 l4 hv=>⟨_,hv,?_⟩
   rw[D0s (k0m _ _) (k0m _ _)]
   have L4:=View.le_trans l3 l4
   refine⟨λc=>step ?_,λc=>(L09 (hya.place.le L4) (hyb.place.le L4) (by omega) (by omega)).mono λv V5 l5 hv=>⟨_,hv,λd=>step ?_,λd => ?_⟩⟩
   . rw[eF,if_pos (.inl (by simpa using c))]
   . rw[eF,if_pos (.inr (by simpa using d))]
   have c:¬0<(a.place.cmp p)*(b.place.cmp p):=by
    have:=of_decide_eq_false c
    exact this
   have d:¬a.place=b.place:=by simpa using d
   rw [if_neg (by rintro (g | g)
                  . exact c g
                  . exact d g)]at eF
   have L5:=View.le_trans L4 l5
   have s1:=o08 p a.place; have s2:=o08 b.place a.place
   have s3:=n0o (z:=p-a.place) (w:=b.place-a.place) (S:=2*S+2) (by omega) (by omega)
   refine(C0s (hxx.le L5) (hya.place.le L5) (hyb.place.le L5) zp za2 zb2 (by omega)).mono λv V6 l6 ⟨r5,hv,h5⟩=>⟨r5,hv,?_⟩
   refine(i0m (hya.time.le (View.le_trans L5 l6)) (hyb.time.le (View.le_trans L5 l6)) h5 (S:=8*S+16) (by omega) (by omega) (by show((p-a.place).div (b.place-a.place)).sz<=_; omega) (by omega)).mono λv V7 l7 ⟨r6,hv,h6⟩=>⟨r6,hv,?_⟩
   rw[eF]
   exact⟨_,_,rfl,rfl,h6⟩
 . have e:i=l.length:=by simp at hge; omega
   subst e
   rw[List.drop_length]at hE
   rw[hE]
   exact⟨_,_,rfl,rfl,l01.zero V2⟩
theorem E0s{V:View}{s:Sl}{l:List Tk}(h:d0b V s l){x:NumV}{p:Cq}(hx:l01 V x p){S:Nat}(hz:∀k∈l,k.szle S)(zp:p.sz<=S)(hS:S<=2^28) :
 a00 prog G0m #[s.v,x.val] V λv V'=>∃r:NumV,v = .tuple #[r.val,.int .i64 (J0l p l)]/\l01 V' r (K0l p l):=by
 have nil:∀(e:Int) (V':View),J0l p l=e->K0l p l=Cq.zero->∃r:NumV,Value.tuple #[zN.val,.int .i64 e]=Value.tuple #[r.val,.int .i64 (J0l p l)]/\l01 V' r (K0l p l):=λe V' he h0=>by
  rw[he,h0]; exact⟨_,rfl,l01.zero V'⟩
 refine y0l s x V _ ((j0m h hz (by omega)).mono λv V1 l1 ⟨r1,hv,e1⟩=>⟨r1,hv,λc => ?_,λc => ?_⟩)
 . have c:G0f l≠0:=by rw[<-e1]; simpa using c
   exact nil _ V1 (by unfold J0l; rw[if_neg c,e1]) (by unfold K0l; rw[if_neg (by rintro⟨g,_⟩; exact c g)])
 have c:G0f l=0:=by rw[<-e1]; simpa using c
 obtain⟨n1,n2,asc⟩:=T0r c
 refine(y06 (hx.le l1)).mono λv V2 l2 hv=>⟨_,hv,λd => ?_,λd => ?_⟩
 . have d:¬p.im=0:=by simpa using d
   exact nil _ V2 (by unfold J0l; rw[if_pos c,if_neg d]) (by unfold K0l; rw[if_neg (by rintro⟨_,g⟩; exact d g)])
 have d:p.im=0:=by simpa using d
 have eE:J0l p l=if(N0a p l).isSome=true then 0 else 5:=by unfold J0l; rw[if_pos c,if_pos d]
 have eV:K0l p l=(N0a p l).getD Cq.zero:=by unfold K0l; rw[if_pos ⟨c,d⟩]
 have L2:=View.le_trans l1 l2
 refine(s0q (h.le L2) n1 (by omega) (hx.le L2) hz zp hS).mono λv V3 l3 ⟨r3,b,hv,hb,h3⟩=>⟨r3,b,hv,λf => ?_,λf => ?_⟩
 . have f:b=false:=by simpa using f
   rw[f]at hb
   refine nil 5 V3 (by rw[eE,<-hb]; rfl) ?_
   rw[eV]
   cases hq:N0a p l with
   | none=>rfl
   | some w=>rw[hq]at hb; simp at hb
 . have f:b=true:=by simpa using f
   rw[f]at hb
   rw[eE,eV,<-hb]
   exact⟨r3,rfl,h3⟩
def ms0:List Mk:=[⟨0,0,P3.zero⟩,⟨1,0,⟨intQ 2,Cq.zero,Cq.zero⟩⟩,⟨0,1,⟨intQ 1,intQ 3,Cq.zero⟩⟩]
def ts0:List Tk:=[⟨Cq.zero,Cq.zero⟩,⟨intQ 10,intQ 5⟩]
theorem C0n:fitE ms0=0:=by decide +kernel
theorem Z0t:(if(fitF ms0).real=true then dotP (fitF ms0).u (fitF ms0).v else Cq.zero)=intQ 2:=by decide +kernel
theorem a0u:(fitF ms0).real=true:=by decide +kernel
theorem b0u:J0l (intQ 3) ts0=0:=by decide +kernel
theorem C0w:K0l (intQ 3) ts0=intQ 6:=by decide +kernel
theorem Y0w:((cqS (intQ 2)).toList==(ByteArray.mk #[50]).toList)=true:=by decide +kernel
theorem Z0w:((cqS (intQ 6)).toList==(ByteArray.mk #[54]).toList)=true:=by decide +kernel
theorem t0j{V:View}{n:Int}(h0 : -9223372036854775808<=n)(h1:n<=9223372036854775807) :
 a00 prog b0l #[.int .i64 n] V λv V'=>∃r:NumV,v=r.val/\l01 V' r (intQ n):=Y05 h0 h1
theorem B0v{V:View}:a00 prog c0l #[.int .i64 4,.int .i64 2] V λv _=>v = .tuple #[.int .i64 (-2),.int .i64 0]:=by
 have h1:a00 prog H0j #[.int .i64 4] V λv _=>v = .bool true :=
  i0i 4 V _ ⟨λ_=>⟨λ_=>rfl,λh=>absurd h (by decide)⟩,λh=>absurd h (by decide)⟩
 refine X0j 4 2 V _ (h1.mono λv V1 _ hv=>⟨_,hv,λh=>absurd h (by decide),λ_=>⟨λh=>absurd h (by decide),λ_=>⟨λh=>absurd h (by decide),λ_ => ?_⟩⟩⟩)
 exact(W0j 4 2 V1 (λv _=>v = .int .i64 (-2)) ⟨λh=>absurd h (by decide),λ_=>rfl⟩).mono λv V2 _ hv=>⟨_,hv,rfl⟩
theorem D0k{V:View}:a00 prog E0c #[] V λv _=>v = .bool true:=by
 refine y0c V _ ((t0j (by omega) (by omega)).mono λv V1 l1 ⟨r1,hv,h1⟩=>⟨r1,hv,?_⟩)
 refine(t0j (by omega) (by omega)).mono λv V2 l2 ⟨r2,hv,h2⟩=>⟨r2,hv,?_⟩
 refine(t0j (by omega) (by omega)).mono λv V3 l3 ⟨r3,hv,h3⟩=>⟨r3,hv,λb1 V4 l4 _ hb1 => ?_⟩
 have hz4:l01 V4 zN Cq.zero:=l01.zero V4
 have hM:O0h V4 (Sl.mk (some (Addr.mk b1 0 none)) 3 3) ms0:=by
  refine y00.of_block (V:=V4) (sz:=17) (P:=p0q) (zs:=ms0) (o:=(u0f.mk 0 0 ⟨zN,zN,zN⟩).val.cells.toList++((u0f.mk 1 0 ⟨r1,zN,zN⟩).val.cells.toList++(u0f.mk 0 1 ⟨r2,r3,zN⟩).val.cells.toList)) (o':=[]) (b:=b1) (λ_=>by rw[List.append_nil]; exact hb1) ?_ rfl (Nat.le_refl _) (λ_=>rfl)
  exact⟨_,_,rfl,rfl,⟨_,rfl,rfl,rfl,hz4,hz4,hz4⟩,_,_,rfl,rfl,⟨_,rfl,rfl,rfl,h1.le (View.le_trans l2 (View.le_trans l3 l4)),hz4,hz4⟩,_,[],by rw[List.append_nil],rfl,⟨_,rfl,rfl,rfl,h2.le (View.le_trans l3 l4),h3.le l4,hz4⟩,rfl⟩
 have s0:∀m∈ms0,m.in64/\m.p.szle 1100:=by
  have z0:Cq.zero.sz<=64:=by decide +kernel
  have i0:∀n:Int,-9223372036854775808<=n/\n<=9223372036854775807->(intQ n).sz<=1100:=λn h=>Nat.le_trans (k0c h) (by omega)
  intro m hm
  simp only[ms0,List.mem_cons,List.not_mem_nil,or_false]at hm
  rcases hm with rfl|rfl|rfl
  . exact⟨⟨⟨by decide,by decide⟩,⟨by decide,by decide⟩⟩,Nat.le_trans z0 (by omega),Nat.le_trans z0 (by omega),Nat.le_trans z0 (by omega)⟩
  . exact⟨⟨⟨by decide,by decide⟩,⟨by decide,by decide⟩⟩,i0 2 (by omega),Nat.le_trans z0 (by omega),Nat.le_trans z0 (by omega)⟩
  . exact⟨⟨⟨by decide,by decide⟩,⟨by decide,by decide⟩⟩,i0 1 (by omega),i0 3 (by omega),Nat.le_trans z0 (by omega)⟩
 refine(Y0t hM (λm hm=>(s0 m hm).1) (λm hm=>(s0 m hm).2)).mono λv V5 l5 ⟨r4,hv,h4,hsz⟩=>⟨r4,_,hv,?_⟩
 rw[C0n]at h4
 simp only[if_true]at h4
 refine(z0s h4 (hsz C0n) (by omega)).mono λv V6 l6 ⟨r6,hv,h6⟩=>⟨r6,_,hv,?_⟩
 rw[Z0t]at h6
 refine(t0j (by omega) (by omega)).mono λv V7 l7 ⟨r8,hv,h8⟩=>⟨r8,hv,?_⟩
 refine(t0j (by omega) (by omega)).mono λv V8 l8 ⟨r9,hv,h9⟩=>⟨r9,hv,λb2 V9 l9 _ hb2 => ?_⟩
 have hz9:l01 V9 zN Cq.zero:=l01.zero V9
 have hT:d0b V9 (Sl.mk (some (Addr.mk b2 0 none)) 2 2) ts0:=by
  refine y00.of_block (V:=V9) (sz:=10) (P:=d0q) (zs:=ts0) (o:=(w0f.mk zN zN).val.cells.toList++(w0f.mk r8 r9).val.cells.toList) (o':=[]) (b:=b2) (λ_=>by rw[List.append_nil]; exact hb2) ?_ rfl (Nat.le_refl _) (λ_=>rfl)
  exact⟨_,_,rfl,rfl,⟨_,rfl,hz9,hz9⟩,_,[],by rw[List.append_nil],rfl,⟨_,rfl,h8.le (View.le_trans l8 l9),h9.le l9⟩,rfl⟩
 refine(t0j (by omega) (by omega)).mono λv V10 l10 ⟨r10,hv,h10⟩=>⟨r10,hv,?_⟩
 have t0:∀k∈ts0,k.szle 64:=by
  have z0:Cq.zero.sz<=64:=by decide +kernel
  intro k hk
  simp only[ts0,List.mem_cons,List.not_mem_nil,or_false]at hk
  rcases hk with rfl|rfl
  . exact⟨z0,z0⟩
  . exact⟨k0c (by omega),k0c (by omega)⟩
 refine(E0s (S:=64) (hT.le l10) h10 t0 (k0c (by omega)) (by omega)).mono λv V11 l11 ⟨r11,hv,h11⟩=>⟨r11,_,hv,?_⟩
 rw[C0w]at h11
 refine B0v.mono λv V12 l12 hv=>⟨_,_,hv,λ_=>⟨λ_ => ?_,λh => ?_⟩,λh => ?_⟩
 . have L12:=View.le_trans l7 (View.le_trans l8 (View.le_trans l9 (View.le_trans l10 (View.le_trans l11 l12))))
   have i2:(intQ 2).sz<=2^40:=Nat.le_trans (k0c (by omega)) (by omega)
   have i6:(intQ 6).sz<=2^40:=Nat.le_trans (k0c (by omega)) (by omega)
   refine(Y0e (h6.le L12) i2).mono λv V13 l13 hv=>⟨_,hv,λ_=>⟨λ_ => ?_,λh => ?_⟩,λh => ?_⟩
   . refine(Y0e (h11.le (View.le_trans l12 l13)) i6).mono λv V14 _ hv=>⟨_,hv,λ_=>⟨λ_=>rfl,λh=>absurd h (by decide)⟩,λh => ?_⟩
     rw[Z0w]at h; exact absurd h (by decide)
   . rw[b0u]at h; exact absurd h (by decide)
   . rw[Y0w]at h; exact absurd h (by decide)
 . rw[if_pos a0u]at h; exact absurd h (by decide)
 . rw[C0n]at h; exact absurd h (by decide)
theorem F0s{K:Nat->Nat->Bool}{M:Nat->Nat->Cq}{i k s:Nat}(h:(M i k).sz<=s)(h1:1<=s):(ledM K M i k).sz<=s:=by
 unfold ledM
 split
 . exact h
 . exact Nat.le_trans J07 h1
theorem w0u{z w:Cq}{s u:Nat}(hz:z.sz<=s)(hw:w.sz<=u):(z*w).sz<=s+u+1:=by have:=j03 z w; omega
abbrev mfld(n m:Nat)(M:Nat->Nat->Cq):List (List Cq):=matL (2^n) (2^m) (dft true n m M)
theorem G0s{n m:Nat}{M N:Nat->Nat->Cq}(h:∀i k,i<2^n->k<2^m->M i k=N i k):mfld n m M=mfld n m N:=z0d λi k _ _=>i0s h i k
theorem c0u{n m:Nat}(h:Dims n m)(A:Nat->Nat->Cq):mfld n m (dft false n m A)=matL (2^n) (2^m) A:=z0d λi k hi hk=>S0t h.hn h.hm A hi hk
theorem H0s{V:View}{g wg kg:s00}{w v:Sl}{n m:Nat}(h:Dims n m){K:Nat->Nat->Bool}{W M:Nat->Nat->Cq}(s u:Nat)(hg:X00 5 numC V g.rows (mfld n m M))(hq:l02 V w (w02 m))(hv:l02 V v (w02 n))
 (hw:X00 5 numC V wg.rows (matL (2^n) (2^m) W)) (hk:X00 1 Go.Vc.boolC V kg.rows (matL (2^n) (2^m) K)) (sM:∀i k,i<2^n->k<2^m->(M i k).sz<=s) (sW:∀i k,i<2^n->k<2^m->(W i k).sz<=u) (hsz:s+u<=2^14) :
 a00 prog F0c #[g.val,w.v,v.v,wg.val,kg.val] V λx V'=>∃r:s00,x = .tuple #[r.val,.int .i64 0]/\X00 5 numC V' r.rows (mfld n m (ledM K λi k=>M i k*W i k)):=by
 have hC:∀i k,i<2^n->k<2^m->ledM K (λi k=>chg false (dft false n m (dft true n m M) i k) (W i k)) i k=ledM K (λi k=>M i k*W i k) i k:=λi k hi hk=>l0q λ_=>by
  show dft false n m (dft true n m M) i k*W i k=_
  rw[y0o h.hn h.hm _ hi hk]
 refine x0c g w v wg kg V _ ((U0t false h (16*s+165+u) (s+u+1) hg hq hv hw hk (by omega) (by omega) (λi k hi hk=>by have:=k0s (back:=true) h.hn h.hm sM hi hk; omega) (λi k hi hk=>by have:=sW i k hi hk; omega) (λ_ _ _ _ _=>rfl) (by omega) (by omega) (λi k hi hk => ?_)).mono λx V1 _ ⟨r,hx,hr⟩=>⟨r,0,hx,r,rfl,?_⟩)
 . rw[hC i k hi hk]
   exact F0s (w0u (sM i k hi hk) (sW i k hi hk)) (by omega)
 . have e:matL (2^n) (2^m) (ledA false n m K W (dft true n m M))=mfld n m (ledM K λi k=>M i k*W i k):=G0s hC
   rw[<-e]; exact hr
theorem D0w(i k:Nat):wtC [] i k=Cq.one:=by unfold wtC; rw[if_pos rfl]
theorem C0v(V:View):m0g V (Sl.mk none 0 0) []:=y00.nil
theorem E0k{V:View}{x:NumV}{z:Cq}(hx:l01 V x z)(hz:z.sz<=2^36):a00 prog g0p #[x.val] V λv V'=>∃r:NumV,v=r.val/\l01 V' r ⟨z.norm,0⟩/\(⟨z.norm,0⟩:Cq).sz<=2*z.sz+1:=by
 have sA:=z.szA; have sB:=z.szB; have sD:=z.szD
 have wA:wn z.A.natAbs<=2^35:=e0k (by omega)
 have wB:wn z.B.natAbs<=2^35:=e0k (by omega)
 have wD:wn z.D<=2^35:=e0k (by omega)
 refine d0n x V _ ((c04 hx.re hx.re (by omega) (by omega)).mono λv V1 l1 ⟨r1,hv,h1⟩=>⟨r1,hv,?_⟩)
 refine(c04 (hx.im.le l1) (hx.im.le l1) (by omega) (by omega)).mono λv V2 l2 ⟨r2,hv,h2⟩=>⟨r2,hv,?_⟩
 have p1:=H06 wA wA; have p2:=H06 wB wB
 refine(w05 (h1.le l2) h2 (by omega) (by omega)).mono λv V3 l3 ⟨r3,hv,h3⟩=>⟨r3,hv,?_⟩
 have L3:=View.le_trans l1 (View.le_trans l2 l3)
 refine(H02 (hx.le L3)).mono λv V4 l4 ⟨r4,hv,h4⟩=>⟨r4,hv,(H02 (hx.le (View.le_trans L3 l4))).mono λv V5 l5 ⟨r5,hv,h5⟩=>⟨r5,hv,?_⟩⟩
 refine(I07 (h4.le l5) h5 (by omega) (by omega)).mono λv V6 l6 ⟨r6,hv,h6⟩=>⟨r6,hv,?_⟩
 have p3:=O0c z.D z.D
 have hr:=z.canon.rep
 have dn:=D05 hr.pos
 have R:Rep ⟨z.norm,0⟩ (z.A*z.A+z.B*z.B) 0 (z.D*z.D):=by
  refine⟨Nat.mul_ne_zero hr.pos hr.pos,?_,B0s _⟩
  show z.re*z.re+z.im*z.im=_
  rw[hr.re,hr.im,Rat.intCast_add,Rat.intCast_mul,Rat.intCast_mul,Rat.natCast_mul]
  grind
 have q1:=f08 z.A z.A; have q2:=f08 z.B z.B; have q3:=E0l z.D z.D
 have q4:=D0f (a:=z.A*z.A) (b:=z.B*z.B) (k:=2*z.sz) (by omega) (by omega)
 refine(X05 (h3.le (View.le_trans l4 (View.le_trans l5 l6))) (l07.zero V6) h6 R (by have:=H0f p1 p2; omega) (by rw[Int.natAbs_zero,N0c]; omega) (by omega)).mono λv V7 _ ⟨r7,hv,h7⟩=>⟨r7,hv,r7,rfl,h7,?_⟩
 exact R.sz (by omega) (by rw[Int.natAbs_zero,C0f]; omega) (by omega)
def t0q(S:List (List Cq))(K:List (List Bool))(i k:Nat):Rat:=if atG false K i k=true then 0 else(atG Cq.zero S i k).norm
def parS(C:Nat)(f:Nat->Nat->Rat)(t k:Nat):Rat:=sumN t (λi=>sumN C (f i))+sumN k (f t)
theorem l0m(C:Nat)(f:Nat->Nat->Rat)(t:Nat):parS C f t C=parS C f (t+1) 0:=by
 unfold parS
 show _=sumN t (λi=>sumN C (f i))+sumN C (f t)+0
 grind
theorem S0h(C:Nat)(f:Nat->Nat->Rat)(t k:Nat):parS C f t (k+1)=parS C f t k+f t k:=by
 unfold parS
 show _+(sumN k (f t)+f t k)=_
 grind
theorem i0f(C:Nat)(f:Nat->Nat->Rat):parS C f 0 0=0:=by unfold parS sumN; grind
theorem B0o(C:Nat)(f:Nat->Nat->Rat)(n:Nat):parS C f n 0=sumG n C f:=by
 show sumN n (λi=>sumN C (f i))+0=sumN n λi=>sumN C (f i)
 grind
def real(q:Rat):Cq:=⟨q,0⟩
theorem C0o(a b:Rat):real a+real b=real (a+b):=Cq.ext' rfl (by simp only[U02,real]; grind)
theorem I0s(z:Cq):z*z.conj=real z.norm:=Cq.ext' (by simp only[g02,real,Cq.norm,Cq.conj]; grind) (by simp only[i02,real,Cq.conj]; grind)
def j0f(rows:List (List Cq))(ws vs:List Cq)(K:List (List Bool)):Prop:=e05 rows ws vs=true/\rows.length=K.length/\S00 rows=S00 K
instance (rows:List (List Cq)) (ws vs:List Cq) (K:List (List Bool)):Decidable (j0f rows ws vs K):=by unfold j0f; infer_instance
def u0q(rows:List (List Cq))(ws vs:List Cq)(K:List (List Bool)):Rat:=sumG rows.length (S00 rows) (t0q (b09 false rows ws vs) K) / (((rows.length*S00 rows:Nat):Int):Rat)
theorem J0s{q:Rat}:real q≠Cq.zero↔q≠0:=⟨λh e=>h (by rw[e]; rfl),λh e=>h (congrArg Cq.re e)⟩
set_option maxHeartbeats 1000000 in
theorem m0m{V:View}{g kg:s00}{w v:Sl}{rows:List (List Cq)}{ws vs:List Cq}{K:List (List Bool)}(S T Z:Nat)(h:X00 5 numC V g.rows rows)(hr:Rect rows)(hq:l02 V w ws)(hv:l02 V v vs)(hk:X00 1 Go.Vc.boolC V kg.rows K)(rk:Rect K)
 (hS:l08 S rows) (hT:okSz T ws) (hT2:okSz T vs) (s1:1<=S) (t1:1<=T) (hZ1:64*(64*(S+T+2)+9+T+2)+9<=Z) (hZ:Z<=2^20) :
 a00 prog O0b #[g.val,w.v,v.v,kg.val] V λu V'=>∃r:NumV,u = .tuple #[r.val,.int .i64 (if j0f rows ws vs K then 0 else 4)]/\l01 V' r (if j0f rows ws vs K then real (u0q rows ws vs K)else Cq.zero)/\(j0f rows ws vs K->(real (u0q rows ws vs K)).sz<=2^36):=by
 obtain⟨f,hf⟩:∃f,f=t0q (b09 false rows ws vs) K:=⟨_,rfl⟩
 refine y0b g w v kg V _
  (λ_ x V'=>∃t:Nat,x.t46=t/\t<=rows.length/\l01 V' x.o10 (real (parS (S00 rows) f t 0))/\(real (parS (S00 rows) f t 0)).sz<=1+(t*S00 rows)*(2*Z+2)) (λ_ x _=>rows.length-x.t46.toNat)
  (λc x V'=>∃t k:Nat,c.t15=t/\c.t46=t/\t<rows.length/\x.t50=k/\k<=S00 rows/\l01 V' x.o10 (real (parS (S00 rows) f t k))/\(real (parS (S00 rows) f t k)).sz<=1+(t*S00 rows+k)*(2*Z+2)) (λ_ x _=>S00 rows-x.t50.toNat) ?_
 refine(o0c S T h hr hq hv hS hT hT2 s1 t1 (by omega)).mono λu V1 l1 ⟨r1,hu,h1⟩=>⟨r1,_,hu,λc => ?_,λc => ?_⟩
 . have c:e05 rows ws vs=false:=by
     cases e:e05 rows ws vs with
     | false=>rfl
     | true=>unfold M0d at c; rw[if_pos e]at c; simp at c
   have e4:M0d rows ws vs=4:=by unfold M0d; rw[if_neg (by rw[c]; simp)]
   have no:¬j0f rows ws vs K:=λx=>by have:=x.1; rw[c]at this; simp at this
   rw[e4]
   exact⟨_,by rw[if_neg no],by rw[if_neg no]; exact l01.zero V1,λx=>absurd x no⟩
 have ok:e05 rows ws vs=true:=by
  cases e:e05 rows ws vs with
  | true=>rfl
  | false=>unfold M0d at c; rw[if_neg (by rw[e]; simp)]at c; simp at c
 refine(u0o (X00.le numC.le l1 h) (X00.le Go.Vc.boolC.le l1 hk)).mono λu V2 l2 hu=>⟨_,hu,λd => ?_,λd => ?_⟩
 . have d:¬(rows.length=K.length/\S00 rows=S00 K):=λx=>by rw[decide_eq_true x]at d; simp at d
   have no:¬j0f rows ws vs K:=λx=>d x.2
   exact⟨_,by rw[if_neg no],by rw[if_neg no]; exact l01.zero V2,λx=>absurd x no⟩
 have d:rows.length=K.length/\S00 rows=S00 K:=by simpa using d
 have yes:j0f rows ws vs K:=⟨ok,d⟩
 obtain⟨n,mm,hn,hm,ew,ev,hM⟩:=K0f ok hr
 have p1:1<=2^n:=Nat.pow_pos (by omega)
 have p2:2^n<=2^6:=Nat.pow_le_pow_right (by omega) hn
 have p3:1<=2^mm:=Nat.pow_pos (by omega)
 have p4:2^mm<=2^6:=Nat.pow_le_pow_right (by omega) hm
 have lR:=hM.len
 have lC:=hM.cols
 have mF:Mid (b09 false rows ws vs) n mm:=W0l hM false ew ev
 have sF:=t0o hM hn hm false ew ev hS hT hT2 s1 t1
 have sF':l08 Z (b09 false rows ws vs):=λrow hr z hz=>Nat.le_trans (sF row hr z hz) hZ1
 unfold o0i at h1
 rw[if_pos ok]at h1
 refine(u02 (X00.le numC.le (View.le_trans l1 l2) h)).mono λu V3 l3 hu=>⟨_,_,hu,?_⟩
 refine(Y05 (n:=0) (by decide) (by decide)).mono λu V4 l4 ⟨r6,hu,h6⟩=>⟨r6,hu,?_⟩
 refine(g0c h6).mono λu V5 l5 ⟨r7,hu,h7⟩=>⟨r7,hu,⟨0,rfl,by omega,by rw[i0f]; exact h7,by rw[i0f]; exact Nat.le_trans J07 (by omega)⟩,?_⟩
 have L5:=View.le_trans l2 (View.le_trans l3 (View.le_trans l4 l5))
 rintro⟨t46,o8,o10⟩ V6 l6 ⟨t,et,ht,hs,hz⟩
 dsimp only at et hs hz ⊢
 subst et
 have bnd:∀a:Nat,a<=64*64->a*(2*Z+2)<=4096*(2*Z+2):=λa h=>Nat.mul_le_mul_right _ h
 refine⟨λhlt=>⟨⟨t,0,rfl,rfl,by have:=of_decide_eq_true hlt; omega,rfl,by omega,hs,by rw[Nat.add_zero]; exact hz⟩,?_⟩,λhge => ?_⟩
 . rintro⟨t50,o10'⟩ V7 l7 ⟨t',k,et,_,htR,ek,hkC,hs',hz'⟩
   dsimp only at et ek hs' hz' ⊢
   obtain rfl:t'=t:=by omega
   subst ek
   refine⟨λhlt2 => ?_,λhge2 => ?_⟩
   . have hk2:k<S00 rows:=by have:=of_decide_eq_true hlt2; omega
     have L7:=View.le_trans L5 (View.le_trans l6 l7)
     have b1:t'*S00 rows<=63*64:=Nat.mul_le_mul (by omega) (by omega)
     have b2:=bnd (t'*S00 rows+k) (by omega)
     have z1:=sF'.at (by omega) t' k
     refine(w0k (X00.le numC.le L7 h1) mF.rect (by rw[mF.len]; omega) (by rw[mF.cols]; omega)).mono λu V8 l8 ⟨r8,hu,h8⟩=>⟨r8,hu,?_⟩
     refine(Z0l (X00.le Go.Vc.boolC.le (View.le_trans l1 (View.le_trans L7 l8)) hk) rk (by omega) (by omega)).mono λu V9 l9 hu=>⟨_,hu,λc1 => ?_,λc1 => ?_⟩
     . have c1:¬atG false K t' k=true:=by simpa using c1
       have fe:f t' k=(atG Cq.zero (b09 false rows ws vs) t' k).norm:=by rw[hf]; unfold t0q; rw[if_neg c1]
       have zc:=G0b (atG Cq.zero (b09 false rows ws vs) t' k)
       have zm:=j03 (atG Cq.zero (b09 false rows ws vs) t' k) (atG Cq.zero (b09 false rows ws vs) t' k).conj
       refine(f0c (h8.le l9)).mono λu V10 l10 ⟨r10,hu,h10⟩=>⟨r10,hu,?_⟩
       refine(e03 (h8.le (View.le_trans l9 l10)) h10 (by omega) (by omega)).mono λu V11 l11 ⟨r11,hu,h11⟩=>⟨r11,hu,?_⟩
       refine(Z05 (hs'.le (View.le_trans l8 (View.le_trans l9 (View.le_trans l10 l11)))) h11 (by omega) (by omega)).mono λu V12 l12 ⟨r12,hu,h12⟩=>⟨r12,hu,?_⟩
       rw[i64w (by omega) (by omega)]
       have e:real (parS (S00 rows) f t' k)+atG Cq.zero (b09 false rows ws vs) t' k*(atG Cq.zero (b09 false rows ws vs) t' k).conj=real (parS (S00 rows) f t' (k+1)):=by rw[I0s,C0o,S0h,fe]
       have za:=F0b (real (parS (S00 rows) f t' k)) (atG Cq.zero (b09 false rows ws vs) t' k*(atG Cq.zero (b09 false rows ws vs) t' k).conj)
       rw[e]at h12 za
       refine⟨⟨t',k+1,rfl,rfl,htR,by omega,by omega,h12,?_⟩,by omega⟩
       rw[<-Nat.add_assoc,Nat.add_mul (t'*S00 rows+k) 1]
       omega
     . have c1:atG false K t' k=true:=by simpa using c1
       have fe:f t' k=0:=by rw[hf]; unfold t0q; rw[if_pos c1]
       have e:parS (S00 rows) f t' (k+1)=parS (S00 rows) f t' k:=by rw[S0h,fe]; grind
       rw[i64w (by omega) (by omega)]
       refine⟨⟨t',k+1,rfl,rfl,htR,by omega,by omega,by rw[e]; exact hs'.le (View.le_trans l8 l9),?_⟩,by omega⟩
       rw[e,<-Nat.add_assoc,Nat.add_mul (t'*S00 rows+k) 1]
       omega
   . have e:k=S00 rows:=by have:=of_decide_eq_false hge2; omega
     subst e
     rw[i64w (by omega) (by omega)]
     rw[l0m]at hs' hz'
     refine⟨⟨t'+1,by omega,by omega,hs',?_⟩,by omega⟩
     rw[Nat.add_mul t' 1,Nat.one_mul]; exact hz'
 . have e:t=rows.length:=by have:=of_decide_eq_false hge; omega
   subst e
   have b1:rows.length*S00 rows<=64*64:=Nat.mul_le_mul (by omega) (by omega)
   have b0:1*1<=rows.length*S00 rows:=Nat.mul_le_mul (by omega) (by omega)
   have b2:=bnd (rows.length*S00 rows) (by omega)
   rw[<-Int.natCast_mul,i64w (n:=((rows.length*S00 rows:Nat):Int)) (by omega) (by omega)]
   refine(Y08 (p:=1) (q:=0) (d:=((rows.length*S00 rows:Nat):Int)) (by decide) (by decide) (by decide) (by decide) (by omega) (by omega) (by omega)).mono λu V13 l13 ⟨r13,hu,h13⟩=>⟨r13,_,hu,?_⟩
   have zp:(P07 (rows.length*S00 rows)).sz<=64:=by
    have hrr:Rep (P07 (rows.length*S00 rows)) 1 0 (rows.length*S00 rows):=⟨by omega,by simp only[P07]; push_cast; rfl,by simp only[P07]; push_cast; rfl⟩
    refine hrr.sz ?_ ?_ ?_
    . exact W03 (by decide)
    . exact W03 (by decide)
    . exact W03 (by omega)
   have h13:l01 V13 r13 (P07 (rows.length*S00 rows)):=h13
   refine(g0c h13).mono λu V14 l14 ⟨r15,hu,h15⟩=>⟨r15,hu,?_⟩
   have e:real (parS (S00 rows) f rows.length 0)*P07 (rows.length*S00 rows)=real (u0q rows ws vs K):=by
    rw[B0o,hf]
    unfold u0q P07 real
    refine Cq.ext' ?_ ?_
    . simp only[g02]
      rw[Rat.div_def,Rat.div_def,Rat.div_def]
      simp only[Rat.intCast_zero,Rat.intCast_one]
      grind
    . simp only[i02]
      rw[Rat.div_def,Rat.div_def]
      simp only[Rat.intCast_zero]
      grind
   have zm:=j03 (real (parS (S00 rows) f rows.length 0)) (P07 (rows.length*S00 rows))
   refine(e03 (hs.le (View.le_trans l13 l14)) h15 (by omega) (by omega)).mono λu V15 _ ⟨r16,hu,h16⟩=>⟨r16,hu,r16,by rw[if_pos yes],?_,λ_ => ?_⟩
   . rw[if_pos yes,<-e]; exact h16
   . rw[<-e]; omega
set_option maxHeartbeats 2000000 in
theorem E0g{V:View}{s0:Sl}{rs:List RatV}{p1 p2:Int}(h0:m0g V s0 rs)(i0:∀r∈rs,ratI r)(a0:0<=p1)(a1:p1<=255) :
 a00 prog Y09 #[s0.v,.int .u8 p1,.int .u16 p2] V λv _=>v = .bool true:=by
 obtain⟨n,en⟩:∃n,n=J0f p1:=⟨_,rfl⟩
 obtain⟨m,em⟩:∃m,m=J0f (w0n p1):=⟨_,rfl⟩
 have D:Dims n m:=⟨by rw[en]; exact Z0e a0,by rw[em]; exact Z0e (A0o a0 a1)⟩
 have d1:=D.n1; have d2:=D.n4; have d3:=D.m1; have d4:=D.m4
 have G:=p0s h0 i0 a0 a1
 rw[<-en,<-em]at G
 clear en em
 have sA:∀i k,(rawC rs (2^m) i k).sz<=64:=λi k=>o0v i0 _ _ _
 generalize rawC rs (2^m)=A at G sA
 have s1':∀i k,(wtC [] i k).sz<=64:=y0w (λr hr=>by simp at hr)
 let K:Nat->Nat->Bool:=λi k=>bitB p2 (i*2^m+k)
 let B:Nat->Nat->Cq:=carA n m K (wtC []) A
 let f:Nat->Nat->Rat:=λi k=>(A i k-B i k).norm
 let q:Rat:=sumG (2^n) (2^m) f
 have z0:∀i k,i<2^n->k<2^m->(dft false n m A i k).sz<=1189:=λi k hi hk=>by have:=k0s (back:=false) D.hn D.hm (A:=A) (S:=64) (λi k _ _=>sA i k) hi hk; omega
 have zB:∀i k,i<2^n->k<2^m->(B i k).sz<=20229:=λi k hi hk=>by
  have:=k0s (back:=true) D.hn D.hm (A:=ledM K λi k=>dft false n m A i k*wtC [] i k) (S:=1254) (λi k hi hk=>F0s (w0u (z0 i k hi hk) (s1' i k)) (by decide)) hi hk
  have e:B i k=dft true n m (ledM K λi k=>dft false n m A i k*wtC [] i k) i k:=rfl
  rw[e]; omega
 refine G09 s0 p1 p2 V _
  (λc _ V'=>X00 5 numC V' c.o7_0 (matL (2^n) (2^m) A)/\X00 5 numC V' c.o11_0 (matL (2^n) (2^m) B)/\l01 V' c.o13 (real q))
  (λc x V'=>∃t:Nat,x.t61=t/\t<=2^n/\l01 V' x.o17 (real (parS (2^m) f t 0))/\(real (parS (2^m) f t 0)).sz<=1+(t*2^m)*41000/\X00 5 numC V' c.t15 (matL (2^n) (2^m) A)/\X00 5 numC V' c.t16 (matL (2^n) (2^m) B)) (λ_ x _=>2^n-x.t61.toNat)
  (λc x V'=>∃t k:Nat,c.t18=t/\c.t61=t/\t<2^n/\x.t69=k/\k<=2^m/\l01 V' x.o17 (real (parS (2^m) f t k))/\(real (parS (2^m) f t k)).sz<=1+(t*2^m+k)*41000/\X00 5 numC V' c.t15 (matL (2^n) (2^m) A)/\X00 5 numC V' c.t16 (matL (2^n) (2^m) B)) (λ_ x _=>2^m-x.t69.toNat) ?_
 refine G.mono λv V1 l1 ⟨r1,r2,r3,hv,g1,gw,gv⟩=>⟨r1,r2,r3,hv,?_⟩
 have lA:(matL (2^n) (2^m) A).length=2^n:=w00 _ _ _
 have cA:S00 (matL (2^n) (2^m) A)=2^m:=J04 A d1
 have rA:=m08 (m:=2^m) A d1
 have rB:=m08 (m:=2^m) B d1
 refine(q0s (p:=p2) g1 (by omega) (by omega) (by omega) (by omega)).mono λv V2 l2 ⟨r4,hv,g4⟩=>⟨r4,hv,?_⟩
 refine(e0m (rs:=[]) (X00.le numC.le l2 g1) rA (by omega) (by omega) (by omega) (by omega) (C0v V2) (λr hr=>by simp at hr)).mono λv V3 l3 ⟨r5,hv,g5⟩=>⟨r5,hv,?_⟩
 rw[lA,cA]at g4 g5
 have g4:X00 1 Go.Vc.boolC V2 r4.rows (matL (2^n) (2^m) K):=g4
 have L3:=View.le_trans l2 l3
 have g1f:=X00.le numC.le L3 g1
 have eA:=c0u D A
 rw[<-eA]at g1f
 refine(H0s D 1189 64 g1f (gw.le L3) (gv.le L3) g5 (X00.le Go.Vc.boolC.le l3 g4) z0 (λi k _ _=>s1' i k) (by decide)).mono λv V4 l4 ⟨r6,hv,g6⟩=>⟨r6,_,hv,?_⟩
 have g6:X00 5 numC V4 r6.rows (matL (2^n) (2^m) B):=g6
 have L4:=View.le_trans L3 l4
 refine(m0m 64 4 (64*(64*(64+4+2)+9+4+2)+9) (X00.le numC.le L4 g1) rA (gw.le L4) (gv.le L4) (X00.le Go.Vc.boolC.le (View.le_trans l3 l4) g4) (m08 K d1) (A0d λi k _ _=>sA i k) (f0f D.hm) (f0f D.hn) (by decide) (by decide) (Nat.le_refl _) (by decide)).mono λv V5 l5 ⟨r8,hv,g8,_⟩=>⟨r8,_,hv,?_⟩
 have yes:j0f (matL (2^n) (2^m) A) (w02 m) (w02 n) (matL (2^n) (2^m) K):=⟨t0s D A,by rw[w00,w00],by rw[cA,J04 K d1]⟩
 have eq:u0q (matL (2^n) (2^m) A) (w02 m) (w02 n) (matL (2^n) (2^m) K)=q:=by
  unfold u0q
  rw[lA,cA,d0f false A D.hn D.hm]
  have e1:sumG (2^n) (2^m) (t0q (matL (2^n) (2^m) (dft false n m A)) (matL (2^n) (2^m) K))=sumG (2^n) (2^m) (λi k=>if K i k=true then 0 else(dft false n m A i k).norm) :=
   q0j λi k hi hk=>by unfold t0q; rw[f0b _ _ hi hk,f0b _ _ hi hk]
  rw[e1,u0n D.hn D.hm A (W:=wtC []) (λi k _ _=>D0w i k)]
  show((2^n:Nat):Rat)*(((2^m:Nat):Rat)*q) / _=q
  have hne:∀a:Nat,1<=a->((a:Nat):Rat)≠0:=λa ha e=>by
   have:((a:Int):Rat)=((0:Int):Rat):=e
   have:=Rat.intCast_inj.1 this
   omega
  have k1:=hne _ d1
  have k2:=hne _ d3
  have ec:(((2^n*2^m:Nat):Int):Rat)=((2^n:Nat):Rat)*((2^m:Nat):Rat):=by
   show((2^n*2^m:Nat):Rat)=_
   exact Rat.natCast_mul _ _
  rw[ec,Rat.div_def]
  generalize ((2^n:Nat):Rat)=a at k1
  generalize ((2^m:Nat):Rat)=b at k2
  have:(a*b)*(a*b)⁻¹=1:=Rat.mul_inv_cancel _ (λe=>by rcases Rat.mul_eq_zero.1 e with h|h<;>contradiction)
  grind
 rw[if_pos yes]at g8
 rw[eq]at g8
 rw[if_pos yes]
 refine⟨⟨λc=>absurd c (by decide),λ_=>⟨λc=>absurd c (by decide),λ_=>⟨X00.le numC.le (View.le_trans L4 l5) g1,X00.le numC.le l5 g6,g8⟩⟩⟩,?_⟩
 rintro x1 V6 l6 ⟨k1,k2,k3⟩
 dsimp only at k1 k2 k3 ⊢
 clear g1 g1f g4 g5 g6 g8 gw gv G
 refine(n08 k1 rA (by omega) (by omega) (by omega) (by omega)).mono λv V7 l7 ⟨r10,hv,g10⟩=>⟨r10,hv,?_⟩
 refine(n08 (X00.le numC.le l7 k2) rB (by rw[w00]; omega) (by rw[w00]; omega) (by rw[J04 B d1]; omega) (by rw[J04 B d1]; omega)).mono λv V8 l8 ⟨r11,hv,g11⟩=>⟨r11,hv,?_⟩
 have e10:r10.len=2^n:=by rw[g10.len,lA]
 have e11:r11.len=2^n:=by rw[g11.len,w00]
 rw[e10]
 refine(Y05 (n:=0) (by decide) (by decide)).mono λv V9 l9 ⟨r12,hv,h12⟩=>⟨r12,hv,⟨0,rfl,by omega,by rw[i0f]; exact h12,by rw[i0f]; exact Nat.le_trans J07 (by omega),X00.le numC.le (View.le_trans l8 l9) g10,X00.le numC.le l9 g11⟩,?_⟩
 rintro⟨t61,o17⟩ V10 l10 ⟨t,et,ht,hs,hz,m1,m2⟩
 dsimp only at et hs hz m1 m2 ⊢
 subst et
 have bnd:∀a:Nat,a<=16->a*41000<=16*41000:=λa h=>Nat.mul_le_mul_right _ h
 refine⟨λhlt => ?_,λhge => ?_⟩
 . have hk:t<2^n:=by have:=of_decide_eq_true hlt; omega
   have row1:∀ {V':View} {p:Sl} {A:Nat->Nat->Cq},X00 5 numC V' p (matL (2^n) (2^m) A)->∃s:Sl,((0:Int)<=(t:Int)/\(t:Int)<(p.len:Nat)/\Option.isSome p.a=true)/\V'.load (Option.map (λq=>Addr.add q (Int.toNat (t:Int)*1)) p.a)=some s.v/\y00 5 numC V' s (rowL (2^m) (A t)):=λ{V' p A} hp=>by
    obtain⟨g1,s,g2,g3⟩:=hp.row (t:=(t:Int)) (by omega) (by rw[Int.toNat_natCast]; exact Q04 hk A)
    exact⟨s,g1,g2,g3⟩
   obtain⟨s5,a1,a2,a3⟩:=row1 m1
   rw[e10]at a1
   have l5':s5.len=2^m:=by rw[a3.len,k00]
   refine⟨a1,s5,a2,⟨t,0,rfl,rfl,hk,rfl,by omega,hs,by rw[Nat.add_zero]; exact hz,m1,m2⟩,?_⟩
   rw[l5']
   rintro⟨t69,o17'⟩ V11 l11 ⟨t',k,et,_,htR,ek,hkC,hs',hz',m1',m2'⟩
   dsimp only at et ek hs' hz' m1' m2' ⊢
   obtain rfl:t'=t:=by omega
   subst ek
   have b1:t'*2^m<=3*4:=Nat.mul_le_mul (by omega) d4
   refine⟨λhlt2 => ?_,λhge2 => ?_⟩
   . have hk2:k<2^m:=by have:=of_decide_eq_true hlt2; omega
     obtain⟨s8,c1,c2,c3⟩:=row1 m1'
     obtain⟨s10,d1',d2',d3'⟩:=row1 m2'
     rw[e10]at c1
     obtain⟨f1,x,⟨x9,rfl,n9⟩,_,f2,f3⟩:=y00.get c3 (t:=(k:Int)) (by omega) (by rw[Int.toNat_natCast]; exact n03 hk2 (A t'))
     obtain⟨g1,y,⟨x11,rfl,n11⟩,_,g2,g3⟩:=y00.get d3' (t:=(k:Int)) (by omega) (by rw[Int.toNat_natCast]; exact n03 hk2 (B t'))
     have za:=sA t' k
     have zb:=zB t' k htR hk2
     have zs:=o08 (A t' k) (B t' k)
     have b2:=bnd (t'*2^m+k) (by omega)
     refine⟨c1,s8,c2,f1,x9,f2,f3,d1',s10,d2',g1,x11,g2,g3,?_⟩
     refine(c07 n9 n11 (by omega) (by omega)).mono λv V12 l12 ⟨r13,hv,h13⟩=>⟨r13,hv,?_⟩
     refine(E0k h13 (by omega)).mono λv V13 l13 ⟨r14,hv,h14,z14⟩=>⟨r14,hv,?_⟩
     have h14:l01 V13 r14 (real (f t' k)):=h14
     have z14:(real (f t' k)).sz<=2*(A t' k-B t' k).sz+1:=z14
     refine(Z05 (hs'.le (View.le_trans l12 l13)) h14 (by omega) (by omega)).mono λv V14 l14 ⟨r15,hv,h15⟩=>⟨r15,hv,?_⟩
     rw[i64w (by omega) (by omega)]
     have e:real (parS (2^m) f t' k)+real (f t' k)=real (parS (2^m) f t' (k+1)):=by rw[C0o,S0h]
     have zq:=F0b (real (parS (2^m) f t' k)) (real (f t' k))
     rw[e]at h15 zq
     have L14:=View.le_trans l12 (View.le_trans l13 l14)
     refine⟨⟨t',k+1,rfl,rfl,htR,by omega,by omega,h15,?_,X00.le numC.le L14 m1',X00.le numC.le L14 m2'⟩,by omega⟩
     rw[<-Nat.add_assoc,Nat.add_mul (t'*2^m+k) 1]
     omega
   . have e:k=2^m:=by have:=of_decide_eq_false hge2; omega
     subst e
     rw[i64w (by omega) (by omega)]
     rw[l0m]at hs' hz'
     refine⟨⟨t'+1,by omega,by omega,hs',?_,m1',m2'⟩,by omega⟩
     rw[Nat.add_mul t' 1,Nat.one_mul]; exact hz'
 . have e:t=2^n:=by have:=of_decide_eq_false hge; omega
   subst e
   have b1:2^n*2^m<=4*4:=Nat.mul_le_mul d2 d4
   have b2:=bnd (2^n*2^m) (by omega)
   rw[B0o]at hs hz
   have hs:l01 V10 o17 (real q):=hs
   have hz:(real q).sz<=1+(2^n*2^m)*41000:=hz
   have L10:=View.le_trans l7 (View.le_trans l8 (View.le_trans l9 l10))
   refine(L09 (k3.le L10) hs (by omega) (by omega)).mono λv V15 l15 hv=>⟨_,hv,λ_ => ?_,λc=>absurd c (by simp)⟩
   refine(y07 (k3.le (View.le_trans L10 l15)) (by omega)).mono λv V16 l16 hv=>⟨_,hv,?_⟩
   have L16:=View.le_trans L10 (View.le_trans l15 l16)
   refine(s0s (X00.le numC.le L16 k1) (X00.le numC.le L16 k2) d1 (by omega) d3 (by omega) (λi j _ _=>Nat.le_trans (sA i j) (by decide)) (λi j hi hj=>Nat.le_trans (zB i j hi hj) (by decide))).mono λv V17 l17 ⟨b,hv,hb⟩=>⟨_,hv,?_⟩
   have key:b=true↔q=0:=by
    rw[hb]
    show _↔sumG (2^n) (2^m) f=0
    rw[m0s λi k _ _=>t0n _]
    constructor
    . intro h i k hi hk
      show(A i k-B i k).norm=0
      rw[h i k hi hk,c0m]
      exact Cq.ext' (by simp only[m02,Cq.zero]; grind) (by simp only[q02,Cq.zero]; grind)
    . intro h i k hi hk
      have e:A i k-B i k=Cq.zero:=c0m.1 (h i k hi hk)
      have e1:=congrArg Cq.re e
      have e2:=congrArg Cq.im e
      simp only[m02,q02,Cq.zero]at e1 e2
      exact Cq.ext' (by grind) (by grind)
   have cl:decide (real q≠Cq.zero) = !b:=by
    cases b with
    | true=>rw[decide_eq_false (λh=>(J0s.1 h) (key.1 rfl))]; rfl
    | false=>rw[decide_eq_true (J0s.2 λh=>absurd (key.2 h) (by simp))]; rfl
   rw[cl]
   refine⟨λ_=>D0k.mono λv V18 _ hv=>⟨_,hv,rfl⟩,λc => ?_⟩
   cases b<;>simp at c
