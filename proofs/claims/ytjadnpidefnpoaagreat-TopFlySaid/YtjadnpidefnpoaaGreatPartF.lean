/- Part. -/
import Derived.Test.YtjadnpidefnpoaaGreatPartE
namespace Go.Proofs.YtjadnpidefnpoaaGreat
open Go Go.Vc Go.Proofs
open Go.Proofs.Tryz (prog)
theorem s15{V:View}{b:Nat}{a:Z07}(h:V b=some (List.toArray ([.int .i64 a.e0.re,.int .i64 a.e0.im,.int .i64 a.e0.den,.int .i64 a.e1.re,.int .i64 a.e1.im,.int .i64 a.e1.den,.int .i64 a.e2.re,.int .i64 a.e2.im,.int .i64 a.e2.den,.int .i64 a.e3.re,.int .i64 a.e3.im,.int .i64 a.e3.den]))) :
 b0c V ⟨some ⟨b,0,none⟩,4,4⟩ (arr4 a) :=
 W01 (o:=a.e0.val.cells.toList++(a.e1.val.cells.toList++(a.e2.val.cells.toList++(a.e3.val.cells.toList++[])))) h ⟨_,_,rfl,rfl,rfl,_,_,rfl,rfl,rfl,_,_,rfl,rfl,rfl,_,_,rfl,rfl,rfl,rfl⟩ rfl
theorem Q15{V:View}{b:Nat}{a:t09}(h:V b=some #[.int .i64 a.e0.re,.int .i64 a.e0.im,.int .i64 a.e0.den,.int .i64 a.e1.re,.int .i64 a.e1.im,.int .i64 a.e1.den]) :
 b0c V ⟨some ⟨b,0,none⟩,2,2⟩ (arr2 a) :=
 W01 (o:=a.e0.val.cells.toList++(a.e1.val.cells.toList++[])) h ⟨_,_,rfl,rfl,rfl,_,_,rfl,rfl,rfl,rfl⟩ rfl
theorem w0z{V:View}{b:Nat}{rs:List RatV}(h:b0c V ⟨some ⟨b,0,none⟩,4,4⟩ rs){k:Nat}(hk:k<rs.length) :
 View.has V (some (Addr.add (Addr.mk b 0 none) (Int.toNat (k:Int)*3))) (rnth rs k).val.cells.toList:=by
 obtain⟨_,x,hx,_,hh,_⟩:=Hf h (t:=(k:Int)) (by omega) (z:=rnth rs k) (by rw[Aa]; simp[rnth,List.getD,hk]);exact hx▸hh
theorem n0r{zs:List Cq}{i:Nat}{z:Cq}(h:i<zs.length):nth (zs.set i z) i=z:=by simp[nth,List.getD,h]
theorem x0z(F:Nat->Cq):p0a 4 4 F=rowL 4 F:=by rw[z0m]; rfl
theorem a0i{V V':View}{b:Nat}{s:Sl}{z:List Cq}(hb:V' b=some #[s.v])(h:H01 V s z)(hle:V.le V'):c01 5 numC V' ⟨some ⟨b,0,none⟩,1,1⟩ [z] :=
 W01 (o:=[s.v]) hb (Hd rfl ⟨s,rfl,h.le hle⟩) rfl
theorem k0w{α:Type}(A:Nat->Nat->α):o0e (matL (2^0) (2^2) A)=matL (2^0) (2^2) A/\u0f (matL (2^0) (2^2) A)=0:=⟨rfl,rfl⟩
set_option maxHeartbeats 4000000 in
theorem a0t{V:View}{p0 p1:Z07}{p2:t09}:a00 prog k0f #[p0.val,p1.val,p2.val] V λv _=>v = .bool true:=by
 let F:Nat->Cq:=λk=>ratQ (rnth (arr4 p0) k)
 let W:Nat->Cq:=λk=>ratQ (rnth (arr4 p1) k)
 refine g0e p0 p1 p2 V _
  (λc _ V'=>b0c V' ⟨c.t3,4,4⟩ (arr4 p0)/\b0c V' ⟨c.t4,4,4⟩ (arr4 p1)/\(∀r∈arr4 p0,kilo r)/\(∀r∈arr4 p1,kilo r)/\∀r∈arr2 p2,kilo r)
  (λc x V'=>∃(t:Nat) (l:List Value) (s u w:Rat),x.t91=t/\t<=4/\b0c V' ⟨c.t3,4,4⟩ (arr4 p0)/\b0c V' ⟨c.t4,4,4⟩ (arr4 p1)/\Q00 V' c.o9 (rq u)/\Q00 V' c.o10 (rq s)/\C07 V' c.t11 (flyL s u)/\u*w=1/\0<w/\3<=u*4000000 /\
    (rq s).sz<=10/\(rq u).sz<=10/\G02 10 x.t12l x.t12c x.o12 l/\f01 10 y0q V' l ((flyS w F).take t)/\x.t12l=t/\u05 V' x.o88 (p0a 4 t F))
  (λ_ x _=>4-x.t91.toNat)
  (λc _ V'=>∃s:Rat,b0c V' ⟨c.t4,4,4⟩ (arr4 p1)/\H01 V' c.t13 (rowL 4 F)/\H01 V' c.t17 (rowL 4 F)/\Q00 V' c.o10 (rq s)/\(rq s).sz<=10)
  (λc _ V'=>b0c V' ⟨c.t4,4,4⟩ (arr4 p1)/\H01 V' c.t13 (rowL 4 F)/\H01 V' c.t17 (rowL 4 F))
  (λc x V'=>∃t:Nat,x.t194=t/\t<=4/\b0c V' ⟨c.t4,4,4⟩ (arr4 p1)/\H01 V' c.t13 (rowL 4 F)/\H01 V' c.t17 (rowL 4 F)/\u05 V' x.o191 (p0a 4 t W))
  (λ_ x _=>4-x.t194.toNat)
  (λc x V'=>∃t:Nat,x.t260=t/\t<=4/\(∀k,k<t->W k≠Cq.zero)/\H01 V' c.t13 (rowL 4 F)/\H01 V' c.t258 (rowL 4 W)/\((∀k,k<4->W k≠Cq.zero)->c.t19=0/\c01 5 numC V' c.o36_0 [rowL 4 F])/\((∃k,k<4/\W k=Cq.zero)->c.t19=3))
  (λ_ x _=>4-x.t260.toNat) ?_
 have L0:(arr4 p0).length=4:=rfl;have L1:(arr4 p1).length=4:=rfl;have mem0:∀k,k<4->rnth (arr4 p0) k∈arr4 p0:=λk hk=>Bn (i:=k) (by simp[rnth,List.getD,L0,hk])
 have mem1:∀k,k<4->rnth (arr4 p1) k∈arr4 p1:=λk hk=>Bn (i:=k) (by simp[rnth,List.getD,L1,hk])
 have aw:∀ {V':View},a00 prog l0a #[] V' λv V2=>∃r:Bool,v = .bool r/\Value.bool r = .bool true:=Y0k.mono λv V1 _ hv=>⟨_,hv,rfl⟩
 refine⟨by decide,by decide,λb1 V2 l2 hb1 b2 V3 l3 hb2 => ?_⟩;have h0:=s15 hb1;have h1:=s15 hb2;refine⟨⟨trivial,?_⟩,?_⟩
 . refine(o0c (h0.le l3) (by show 4<=100; omega)).mono λv V4 l4 ⟨r1,hv,k1⟩=>⟨r1,hv,λ_=>aw,λc1=>⟨trivial,?_⟩⟩;refine(o0c (h1.le l4) (by show 4<=100; omega)).mono λv V6 l6 ⟨r3,hv,k3⟩=>⟨r3,hv,λ_=>aw,λc3 b3 V8 l8 _ hb3 => ?_⟩;refine(o0c (Q15 hb3) (by show 2<=100; omega)).mono λv V9 l9 ⟨r5,hv,k5⟩=>⟨r5,hv,λ_=>aw,λc5 => ?_⟩;have L:=Gx l4 (Gx l6 (Gx l8 l9));exact⟨h0.le (Gx l3 L),h1.le L,k1 (by simpa using c1),k3 (by simpa using c3),k5 (by simpa using c5)⟩
 rintro x1 V1 _ ⟨h0,h1,k0,k1,k2⟩;dsimp only at h0 h1 ⊢;have kF:∀k,k<4->kilo (rnth (arr4 p0) k):=λk hk=>k0 _ (mem0 k hk)
 have kW:∀k,k<4->kilo (rnth (arr4 p1) k):=λk hk=>k1 _ (mem1 k hk)
 have zF:∀k,k<4->(F k).sz<=10:=λk hk=>N0o (kF k hk)
 have zW:∀k,k<4->(W k).sz<=10:=λk hk=>N0o (kW k hk)
 have ku:kilo (RatV.mk p2.e0.re 0 p2.e0.den):=by
  have:=k2 p2.e0 (by simp[arr2]);exact⟨this.1,⟨by show(-1000:Int)<=0; decide,by show(0:Int)<=1000; decide⟩,this.2.2⟩
 have ks:kilo (RatV.mk p2.e1.re 0 p2.e1.den):=by
  have:=k2 p2.e1 (by simp[arr2]);exact⟨this.1,⟨by show(-1000:Int)<=0; decide,by show(0:Int)<=1000; decide⟩,this.2.2⟩
 obtain⟨u,eu,hu⟩:=l0r ku;obtain⟨s,es,_⟩:=l0r ks;have zu:=N0o ku;have zs:=N0o ks;rw[eu]at zu;rw[es]at zs;refine(S09 ku.ok).mono λv V11 l11 ⟨r7,hv,n7⟩=>⟨r7,hv,?_⟩;refine(S09 ks.ok).mono λv V12 l12 ⟨r8,hv,n8⟩=>⟨r8,hv,?_⟩;rw[eu]at n7;rw[es]at n8;have i0:(⟨((0:Int):Rat),0⟩:Cq)=rq 0:=rfl;refine(a02 (n:=0) (by decide) (by decide)).mono λv V13 l13 ⟨r9,hv,n9⟩=>⟨r9,hv,?_⟩;rw[i0]at n9;have z0:(rq 0:Cq).sz<=2:=by decide +kernel
 have z4:(⟨((4000000:Int):Rat),0⟩:Cq).sz<=22:=(Hc9 4000000).sz (k:=22) (k02 (by decide)) (by decide) (by decide);have e4:(⟨((4000000:Int):Rat),0⟩:Cq)=rq 4000000:=rfl;rw[e4]at z4;refine(N06 (n7.le (Gx l12 l13)) n9 (by omega) (by omega)).mono λv V14 l14 hv=>⟨_,hv,λ_=>aw,λc => ?_⟩;have upos:0<u:=by
  rw[A0q]at c;have c:=Al c;rcases K0a u 0 with⟨q1,q2⟩|⟨q1,q2⟩|⟨q1,q2⟩
  . omega
  . omega
  exact q1
 have u3:=hu upos;have uw:u*u⁻¹=1:=Rat.mul_inv_cancel u (by grind);have wpos:0<u⁻¹:=Rat.inv_pos.2 upos;have L14:=Gx l12 (Gx l13 l14);refine(a02 (n:=0) (by decide) (by decide)).mono λv V16 l16 ⟨r12,hv,n12⟩=>⟨r12,hv,?_⟩;refine(a02 (n:=4000000) (by decide) (by decide)).mono λv V17 l17 ⟨r13,hv,n13⟩=>⟨r13,hv,?_⟩;refine(a02 (n:=4000000) (by decide) (by decide)).mono λv V18 l18 ⟨r14,hv,n14⟩=>⟨r14,hv,?_⟩;rw[i0]at n12;rw[e4]at n13 n14;have L18:=Gx L14 (Gx l16 (Gx l17 l18));have zm:=D02 (rq u) (rq 4000000);refine(m03 (n7.le L18) n14 (by omega) (by omega)).mono λv V19 l19 ⟨r15,hv,n15⟩=>⟨r15,hv,?_⟩;have za:=q06 (rq s) (rq u*rq 4000000);have L19:=Gx L18 l19;refine(J03 (n8.le (Gx (Gx l13 (Gx l14 (Gx l16 (Gx l17 l18)))) l19)) n15 (by omega) (by omega)).mono λv V20 l20 ⟨r16,hv,n16⟩=>⟨r16,hv,λb4 V21 l21 _ hb4=>⟨by decide,?_⟩⟩;have ep:rq s+rq u*rq 4000000=rq (s+u*4000000):=by rw[J0m,D0f]
 rw[ep]at n16 za;have L21:=Gx l19 (Gx l20 l21);have n8':=n8.le (Gx (Gx l13 (Gx l14 (Gx l16 (Gx l17 l18)))) L21);have n7':=n7.le (Gx L18 L21);have tk:C07 V21 ⟨some ⟨b4,0,none⟩,2,2⟩ (flyL s u) :=
  W01 (o:=(z0g.mk r12 r8).val.cells.toList++((z0g.mk r13 r16).val.cells.toList++[])) hb4
   ⟨_,_,rfl,rfl,⟨⟨r12,r8⟩,rfl,n12.le (Gx l17 (Gx l18 L21)),n8'⟩,_,_,rfl,rfl,⟨⟨r13,r16⟩,rfl,n13.le (Gx l18 L21),n16.le l21⟩,rfl⟩ rfl
 have LL:=Gx l11 (Gx L18 L21);refine⟨⟨0,[],s,u,u⁻¹,rfl,by omega,h0.le LL,h1.le LL,n7',n8',tk,uw,wpos,u3,zs,zu,Hg,rfl,rfl,?_⟩,?_⟩
 . rw[b0g]; exact u05.zeros V21 4
 clear tk n7 n8 n9 n12 n13 n14 n15 n16 zm za uw wpos u3 zs zu eu es hu h0 h1 hb4 upos c L14 L18 L19 L21 LL;rintro⟨t12l,t12c,t91,o12,o88⟩ V22 l22 ⟨t,l,s,u,w,et,ht,h0,h1,n7,n8,tk,uw,wpos,u3,zs,zu,hL,hC,el,hN⟩;dsimp only at et h0 h1 n7 n8 tk hL hC el hN ⊢;subst et; subst el;have upos:u≠0:=by grind
 refine⟨λhlt => ?_,λhge b6 V27 l27 hb6 => ?_⟩
 . have ht4:t12l<4:=by have:=Ak hlt; simp at this; omega
   have ef:(p0a 4 t12l F).length=4:=L07 (by omega) F;refine⟨⟨by omega,by omega⟩,rnth (arr4 p0) t12l,w0z h0 (by omega),rfl,?_⟩;refine(S09 (kF _ ht4).ok).mono λv V23 l23 ⟨r17,hv,n17⟩=>⟨r17,hv,⟨by omega,by show(_:Int)<((4:Nat):Int); omega⟩,?_,?_⟩
   . rw[Aa]; exact f01.room hN (by omega)
   refine(a02 (n:=(t12l:Int)) (by omega) (by omega)).mono λv V24 l24 ⟨r18,hv,n18⟩=>⟨r18,hv,?_⟩;have e18:(⟨((t12l:Int):Rat),0⟩:Cq)=rq ((t12l:Int):Rat):=rfl;rw[e18]at n18;have z18:(rq ((t12l:Int):Rat)).sz<=10:=(Hc9 (t12l:Int)).sz (k:=10) (k02 (by omega)) (by decide) (by decide);refine(U09 n18 (n7.le (Gx l23 l24)) (by omega) (by omega)).mono λv V25 l25 ⟨r19,r20,hv,_,n19⟩=>⟨r19,r20,hv,⟨by omega,by show(_:Int)<((4:Nat):Int); omega⟩,?_⟩;obtain⟨_,n19⟩:=n19 (X12 upos);rw[b0y]at n19;have e19:((t12l:Int):Rat) / u=flyT w t12l:=by
    unfold flyT;exact E0s upos (by grind)
   rw[e19]at n19;have hS:=(hN.le (Gx l23 (Gx l24 l25))).set (i:=t12l) (by omega) (n17.le (Gx l24 l25));have hn17:ratQ (rnth (arr4 p0) t12l)=F t12l:=rfl;rw[hn17]at hS;obtain⟨x6,hx6,n6⟩:=hS.cut (i:=t12l) (by rw[Dg]; omega);rw[n0r (by omega)]at n6;rw[Aa];refine⟨x6,hx6,λb5 V26 l26 _ hb5=>⟨l,(K0j.mk r19 x6).val.cells.toList,hL,T09 hb5,rfl,?_,by unfold maxLen; omega,by omega,λc1 l3 hl3 => ?_⟩⟩
   . intro v hv;have e:(K0j.mk r19 x6).val.cells.toList=[Value.bool r19.re.neg,r19.re.mag.v,Value.bool r19.im.neg,r19.im.mag.v,r19.under.v]++[Value.bool x6.re.neg,x6.re.mag.v,Value.bool x6.im.neg,x6.im.mag.v,x6.under.v]:=rfl;rw[e]at hv;rcases Cb.1 hv with hv|hv
     . exact x0b r19 v hv
     exact x0b x6 v hv
   rw[i64w (by omega) (by omega)];have L26:=Gx l23 (Gx l24 (Gx l25 l26));refine⟨⟨t12l+1,_,s,u,w,rfl,by omega,h0.le L26,h1.le L26,n7.le L26,n8.le L26,tk.le L26,uw,wpos,u3,zs,zu,hl3,?_,rfl,?_⟩,by omega⟩
   . rw[Ce,E11 w F ht4];exact(hC.imp (y0q.le L26)).append (Hd rfl ⟨⟨r19,x6⟩,rfl,n19.le l26,n6.le l26⟩)
   rw[<-H0h ht4]; exact hS.le l26
 have e:t12l=4:=by have:=Al hge; simp at this; omega
 subst e;have hq:C07 V27 ⟨lstA b6 t12c,4,t12c⟩ (flyS w F):=k04 hL hb6 (hC.imp (y0q.le l27)) rfl;refine(a02 (n:=1) (by decide) (by decide)).mono λv V28 l28 ⟨r21,hv,n21⟩=>⟨r21,hv,?_⟩;have e21:(⟨((1:Int):Rat),0⟩:Cq)=rq 1:=rfl;rw[e21]at n21;have z1:(rq 1:Cq).sz<=2:=by decide +kernel
 have z0:(rq 0:Cq).sz<=2:=by decide +kernel
 have z4:(rq 4000000:Cq).sz<=22:=(Hc9 4000000).sz (k:=22) (k02 (by decide)) (by decide) (by decide);have ez:rq (s+u*4000000)=rq s+rq u*rq 4000000:=by rw[J0m,D0f]
 have za:=q06 (rq s) (rq u*rq 4000000);have zm:=D02 (rq u) (rq 4000000);have zl:∀k∈flyL s u,k.szle 64:=by
  intro k hk;unfold flyL at hk;simp only[Bq,Cp,Eq9]at hk;rcases hk with rfl|rfl
  . exact⟨by show(rq 0).sz<=64; omega,by show(rq s).sz<=64; omega⟩
  exact⟨by show(rq 4000000).sz<=64; omega,by show(rq (s+u*4000000)).sz<=64; rw[ez]; omega⟩
 have zt:∀k,k<4->(rq (flyT w k)).sz<=48:=λk hk=>by
  have e19:((k:Int):Rat) / u=flyT w k:=by
   unfold flyT;exact E0s upos (by grind)
  rw[<-e19,<-b0y];exact E0f ((Hc9 (k:Int)).sz (k:=10) (k02 (by omega)) (by decide) (by decide)) zu
 have zq:∀k∈flyS w F,k.szle 64:=by
  intro k hk;unfold flyS at hk;simp only[Bq,Cp,Eq9]at hk;rcases hk with rfl|rfl|rfl|rfl
  . exact⟨Ah (zt 0 (by decide)) (by decide),Ah (zF 0 (by decide)) (by decide)⟩
  . exact⟨Ah (zt 1 (by decide)) (by decide),Ah (zF 1 (by decide)) (by decide)⟩
  . exact⟨Ah (zt 2 (by decide)) (by decide),Ah (zF 2 (by decide)) (by decide)⟩
  exact⟨Ah (zt 3 (by decide)) (by decide),Ah (zF 3 (by decide)) (by decide)⟩
 have L28:=Gx l27 l28;obtain⟨f1,f2,f3⟩:=H10 (s:=s) uw wpos u3 F;refine(m0z (tk.le L28) (hq.le l28) (n8.le L28) n21 zl zq (by omega) (by omega) (by show 4<=2^20; decide)).mono λv V29 l29 ⟨r22,r23,hv,hR⟩=>⟨r22,r23,_,hv,?_⟩;rw[f1]at hR ⊢;unfold H13 at hR;rw[if_pos rfl,if_pos rfl]at hR;have e4n:Int.toNat 4=4:=rfl;rw[e4n,f2,f3]at hR;obtain⟨hr22,hr23⟩:=hR;have l23:r23.len=0:=hr23.len;have L29:=Gx L28 l29;intro b7 V31 l31 hb7;have hrow:H01 V31 ⟨some ⟨b7,0,none⟩,4,4⟩ (rowL 4 F):=by
  rw[<-x0z];exact W01 hb7 (hN.le (Gx L29 l31)) (L07 (by omega) F).symm
 have okF:Q08 (2^40) [rowL 4 F]:=by
  intro row hr z hz;rw[Ca]at hr;subst hr;unfold rowL at hz;obtain⟨k,hk,rfl⟩:=Bc.1 hz;exact Ah (zF k (by simpa using hk)) (by decide)
 have h64:∀row∈[rowL 4 F],row.length<=64:=by
  intro row hr;rw[Ca]at hr;subst hr;rw[B00]; decide
 rw[e4n];refine⟨⟨λc=>absurd c (by decide),λ_=>⟨λc=>absurd c (by rw[l23]; decide),λ_ b8 V32 l32 _ hb8 b9 V33 l33 _ hb9 => ?_⟩⟩,?_⟩
 . refine(K0f (Hi Hh l33 (a0i hb8 (hr22.le l31) l32)) (a0i (s:=⟨some ⟨b7,0,none⟩,4,4⟩) hb9 hrow (Gx l32 l33)) (by show 1<=64; decide) h64 okF).mono λv V34 l34 hv=>⟨_,hv,λc=>absurd c (by simp),λ_ => ?_⟩;have L34:=Gx l32 (Gx l33 l34);have LL:=Gx L29 (Gx l31 L34);exact⟨s,h1.le LL,hrow.le L34,hr22.le (Gx l31 L34),n8.le LL,zs⟩
 clear hr22 hr23 hrow h1 n8 zs zl zq zt n21 n7 h0 tk hL hC hN hb6 hq hb7 za zm ez f1 f2 f3;rintro x8 V30 l30 ⟨s,h1,hrow,hr22,n8,zs⟩
 try dsimp only at h1 hrow hr22 n8 ⊢
 refine(a02 (n:=1) (by decide) (by decide)).mono λv V35 l35 ⟨r26,hv,n26⟩=>⟨r26,hv,?_⟩;refine(a02 (n:=1) (by decide) (by decide)).mono λv V36 l36 ⟨r27,hv,n27⟩=>⟨r27,hv,?_⟩;rw[e21]at n26 n27;refine(J03 (n8.le (Gx l35 l36)) n27 (by omega) (by omega)).mono λv V37 l37 ⟨r28,hv,n28⟩=>⟨r28,hv,λb10 V38 l38 _ hb10 => ?_⟩;rw[D0f]at n28;have L38:=Gx l35 (Gx l36 (Gx l37 l38));have n8':=n8.le L38;have zn:=Q00.zero V38;have mk:a0l V38 ⟨some ⟨b10,0,none⟩,3,3⟩ (flyM s) :=
  W01 (o:=(A0h.mk 0 0 ⟨r8,zN,zN⟩).val.cells.toList++((A0h.mk 1 0 ⟨r8,r26,zN⟩).val.cells.toList++((A0h.mk 0 1 ⟨r28,zN,zN⟩).val.cells.toList++[]))) hb10
   ⟨_,_,rfl,rfl,⟨⟨0,0,⟨r8,zN,zN⟩⟩,rfl,rfl,rfl,n8',zn,zn⟩,_,_,rfl,rfl,⟨⟨1,0,⟨r8,r26,zN⟩⟩,rfl,rfl,rfl,n8',n26.le (Gx l36 (Gx l37 l38)),zn⟩,_,_,rfl,rfl,⟨⟨0,1,⟨r28,zN,zN⟩⟩,rfl,rfl,rfl,n28.le l38,zn,zn⟩,rfl⟩ rfl
 have z00:Cq.zero.sz<=2:=z0;have zs1:=q06 (rq s) (rq 1);rw[D0f]at zs1;have in64:∀m∈flyM s,m.in64:=by
  intro m hm;unfold flyM at hm;simp only[Bq,Cp,Eq9]at hm;rcases hm with rfl|rfl|rfl<;>(refine⟨⟨?_,?_⟩,?_,?_⟩<;>dsimp only<;>omega)
 have zmk:∀m∈flyM s,m.p.szle 1100:=by
  intro m hm;unfold flyM at hm;simp only[Bq,Cp,Eq9]at hm;rcases hm with rfl|rfl|rfl
  . exact⟨by show(rq s).sz<=1100; omega,by show Cq.zero.sz<=1100; omega,by show Cq.zero.sz<=1100; omega⟩
  . exact⟨by show(rq s).sz<=1100; omega,by show(rq 1).sz<=1100; omega,by show Cq.zero.sz<=1100; omega⟩
  exact⟨by show(rq (s+1)).sz<=1100; omega,by show Cq.zero.sz<=1100; omega,by show Cq.zero.sz<=1100; omega⟩
 refine(A11 mk in64 zmk).mono λv V39 l39 ⟨r29,hv,n29,z29⟩=>⟨r29,_,hv,?_⟩;rw[O0o,if_pos rfl,t0z]at n29;have z29:=z29 (O0o s);rw[t0z]at z29;rw[O0o];refine(a02 (n:=0) (by decide) (by decide)).mono λv V40 l40 ⟨r31,hv,n31⟩=>⟨r31,hv,?_⟩;refine(a02 (n:=3) (by decide) (by decide)).mono λv V41 l41 ⟨r32,hv,n32⟩=>⟨r32,hv,?_⟩;have e32:(⟨((3:Int):Rat),0⟩:Cq)=rq 3:=rfl;have e31:(⟨((0:Int):Rat),0⟩:Cq)=rq 0:=rfl;rw[e31]at n31;rw[e32]at n32;have z3:(rq 3:Cq).sz<=2:=by decide +kernel
 have pok:U0k (flyF s) (rq 0) (rq 3)=true:=by
  simp[U0k,flyF,F3.real,P3.real,rq,Cq.zero]
 refine(d0w (n29.le (Gx l40 l41)) (n31.le l41) n32 z29 (by omega:(rq 0:Cq).sz<=2) z3 (by decide)).mono λv V42 l42 ⟨r33,hv,n33⟩=>⟨r33,_,hv,?_⟩;rw[pok,if_pos rfl,p0h]at n33;rw[pok];have zs3:=q06 (rq s) (rq 3);rw[D0f]at zs3;have L42:=Gx L38 (Gx l39 (Gx l40 (Gx l41 l42)));refine⟨⟨λc=>absurd c (by decide),λ_=>⟨λc=>absurd c (by decide),λ_ => ?_⟩⟩,?_⟩
 . refine(a02 (n:=3) (by decide) (by decide)).mono λv V44 l44 ⟨r35,hv,n35⟩=>⟨r35,hv,?_⟩;rw[e32]at n35;refine(J03 (n8.le (Gx L42 l44)) n35 (by omega) (by omega)).mono λv V45 l45 ⟨r36,hv,n36⟩=>⟨r36,hv,?_⟩;rw[D0f]at n36;refine(N08 (n33.x.le (Gx l44 l45)) n36 (by show(rq (s+3)).sz<=_; omega) (by omega)).mono λv V46 l46 hv=>⟨_,hv,λc=>absurd c (by simp),λ_ => ?_⟩;refine(e07 (n33.y.le (Gx l44 (Gx l45 l46))) (by show(rq 0).sz<=_; omega)).mono λv V47 l47 hv=>⟨_,hv,λc=>absurd c (by rw[decide_eq_true_iff]; exact λh=>h rfl),λ_ => ?_⟩;have L47:=Gx l44 (Gx l45 (Gx l46 l47));refine(e07 (n33.z.le L47) (by show Cq.zero.sz<=_; omega)).mono λv V48 l48 hv=>⟨_,hv,λc=>absurd c (by rw[decide_eq_true_iff]; exact λh=>h rfl),λ_ => ?_⟩;have LL:=Gx L42 (Gx L47 l48);exact⟨h1.le LL,hrow.le LL,hr22.le LL⟩
 clear hrow hr22 h1 n8 n28 n26 n27 mk n29 z29 n31 n32 n33 hb10 zs zs1 zs3 in64 zmk n8' zn pok;rintro x10 V43 l43 ⟨h1,hrow,hr22⟩
 try dsimp only at h1 hrow hr22 ⊢
 refine⟨by decide,⟨0,rfl,by omega,h1,hrow,hr22,by rw[b0g]; exact u05.zeros V43 4⟩,?_⟩;rintro⟨t194,o191⟩ V49 l49 ⟨t,et,ht,h1,hrow,hr22,hN⟩;dsimp only at et h1 hrow hr22 hN ⊢;subst et;refine⟨λhlt => ?_,λhge b11 V51 l51 _ hb11 => ?_⟩
 . have ht4:t<4:=by have:=Ak hlt; simp at this; omega
   have ef:(p0a 4 t W).length=4:=L07 (by omega) W;refine⟨⟨by omega,by omega⟩,rnth (arr4 p1) t,w0z h1 (by omega),rfl,?_⟩;refine(S09 (kW _ ht4).ok).mono λv V50 l50 ⟨r40,hv,n40⟩=>⟨r40,hv,⟨by omega,by show(_:Int)<((4:Nat):Int); omega⟩,?_,?_⟩
   . rw[Aa]; exact f01.room hN (by omega)
   rw[i64w (by omega) (by omega),Aa];have hS:=(hN.le l50).set (i:=t) (by omega) n40;have hn40:ratQ (rnth (arr4 p1) t)=W t:=rfl;rw[hn40]at hS;exact⟨⟨t+1,rfl,by omega,h1.le l50,hrow.le l50,hr22.le l50,by rw[<-H0h ht4]; exact hS⟩,by omega⟩
 have e:t=4:=by have:=Al hge; simp at this; omega
 subst e;have D:Dims 0 2:=⟨by decide,by decide⟩;have g1:c01 5 numC V51 ⟨some ⟨b11,0,none⟩,1,1⟩ (matL (2^0) (2^2) λ_ k=>F k):=a0i hb11 hr22 l51;refine(X07 g1).mono λv V52 l52 ⟨r41,hv,g41⟩=>⟨r41,_,hv,λb12 V53 l53 hb12 b13 V54 l54 _ hb13 => ?_⟩;rw[(k0w _).1]at g41;have hw:H01 V53 ⟨some ⟨b12,0,none⟩,4,4⟩ (rowL 4 W):=by
  rw[<-x0z];exact W01 hb12 (hN.le (Gx l51 (Gx l52 l53))) (L07 (by omega) W).symm
 have g2:c01 5 numC V54 ⟨some ⟨b13,0,none⟩,1,1⟩ (matL (2^0) (2^2) λ_ k=>W k):=a0i (s:=⟨some ⟨b12,0,none⟩,4,4⟩) hb13 hw l54;refine(X07 g2).mono λv V55 l55 ⟨r43,hv,g43⟩=>⟨r43,_,hv,λb14 V56 l56 _ hb14 b15 V57 l57 _ hb15 => ?_⟩;rw[(k0w _).1]at g43;have g3:c01 1 Go.Vc.boolC V57 ⟨some ⟨b15,0,none⟩,1,1⟩ (matL (2^0) (2^2) λ_ _=>true):=by
  have hrow:n00 1 Go.Vc.boolC V56 ⟨some ⟨b14,0,none⟩,4,4⟩ [true,true,true,true]:=W01 (o:=[.bool true,.bool true,.bool true,.bool true]) hb14 ⟨_,_,rfl,rfl,rfl,_,_,rfl,rfl,rfl,_,_,rfl,rfl,rfl,_,_,rfl,rfl,rfl,rfl⟩ rfl;exact W01 (o:=[(Sl.mk (some (Addr.mk b14 0 none)) 4 4).v]) hb15 (Hd rfl ⟨_,rfl,He (Go.Vc.boolC.le l57) l57 hrow⟩) rfl
 refine(T0h g3).mono λv V58 l58 ⟨r45,hv,g45⟩=>⟨r45,_,hv,?_⟩;rw[(k0w _).1]at g45;refine(t0a (n:=4) (by decide)).mono λv V59 l59 ⟨r47,hv,n47⟩=>⟨r47,_,hv,?_⟩;refine(t0a (n:=1) (by decide)).mono λv V60 l60 ⟨r49,hv,n49⟩=>⟨r49,_,hv,?_⟩;rw[(J0k (m:=2) (by decide):S0m 4=k03 2)]at n47;rw[(J0k (m:=0) (by decide):S0m 1=k03 0)]at n49;rw[(k0w _).2,(k0w _).2,(k0w _).2];refine⟨λc=>absurd c (by decide),λ_ => ?_⟩;have L60:=Gx l59 l60;have L58:=Gx l58 L60;have L55:=Gx l56 (Gx l57 L58);have L52:=Gx l53 (Gx l54 (Gx l55 L55));have g41':=Hi Hh L52 g41;have g43':=Hi Hh L55 g43;have g45':=Hi Go.Vc.boolC.le L60 g45;obtain⟨M,hM⟩:∃M,M=dft false 0 2 λ_ k=>F k:=⟨_,rfl⟩;have fu:=D11 D λ_ k=>F k
 rw[<-hM]at fu;rw[<-fu]at g41';have zM:∀i k,i<2^0->k<2^2->(M i k).sz<=1189:=λi k hi hk=>by
  have:=U0t (back:=false) D.hn D.hm (A:=λ_ k=>F k) (S:=64) (λi k _ hk=>Ah (zF k hk) (by decide)) hi hk;rw[hM]; omega
 have zWm:∀i k,i<2^0->k<2^2->(W k).sz<=64:=λi k _ hk=>Ah (zW k hk) (by decide)
 refine(q0z D 1189 64 g41' (n47.le l60) n49 g43' g45' zM zWm (by decide)).mono λv V61 l61 ⟨r51,hv,g51⟩=>⟨r51,_,hv,λc=>absurd c (by decide),λ_ => ?_⟩;have zN1:∀i k,i<2^0->k<2^2->(ledM (λ_ _=>true) (λi k=>M i k*W k) i k).sz<=1254:=λi k hi hk=>X0s (j12 (zM i k hi hk) (zWm i k hi hk)) (by decide)
 have yes:(∀k,k<4->W k≠Cq.zero)->a00 prog O03 #[r51.val,r47.v,r49.v,r43.val,r45.val] V61 λv V62=>∃r:x00,v = .tuple #[r.val,.int .i64 0]/\c01 5 numC V62 r.rows [rowL 4 F]:=λhne=>by
  refine(Y0s D 1254 g51 ((n47.le l60).le l61) (n49.le l61) (Hi Hh l61 g43') (Hi Go.Vc.boolC.le l61 g45') zN1 (λi k hi hk=>Ah (zWm i k hi hk) (by decide)) (by decide) (λi k _ hk=>hne k hk)).mono λv V62 l62 ⟨r,hv,hr⟩=>⟨r,hv,?_⟩;have e1:mfld 0 2 (ledM (λ_ _=>true) λi k=>(ledM (λ_ _=>true) (λi k=>M i k*W k) i k).div (W k))=mfld 0 2 M:=e0l λi k hi hk=>by
   show(M i k*W k).div (W k)=M i k;exact f0l (hne k hk)
  rw[e1,fu]at hr;exact hr
 have no:∀k0,k0<4->W k0=Cq.zero->a00 prog O03 #[r51.val,r47.v,r49.v,r43.val,r45.val] V61 λv V62=>∃r:x00,v = .tuple #[r.val,.int .i64 3]:=λk0 hk0 hW =>
  Z0s D 1254 g51 ((n47.le l60).le l61) (n49.le l61) (Hi Hh l61 g43') (Hi Go.Vc.boolC.le l61 g45') zN1 (λi k hi hk=>Ah (zWm i k hi hk) (by decide)) (by decide) (i0:=0) (k0:=k0) (by decide) hk0 rfl hW
 have both:a00 prog O03 #[r51.val,r47.v,r49.v,r43.val,r45.val] V61 λv V62=>∃(r:x00) (e:Int),v = .tuple #[r.val,.int .i64 e]/\((∀k,k<4->W k≠Cq.zero)->e=0/\c01 5 numC V62 r.rows [rowL 4 F])/\((∃k,k<4/\W k=Cq.zero)->e=3):=by
  by_cases c:∃k,k<4/\W k=Cq.zero
  . obtain⟨k0,hk0,hW⟩:=c;exact(no k0 hk0 hW).mono λv V62 _ ⟨r,hv⟩=>⟨r,3,hv,λh=>absurd hW (h k0 hk0),λ_=>rfl⟩
  exact(yes λk hk hW=>c ⟨k,hk,hW⟩).mono λv V62 _ ⟨r,hv,hr⟩=>⟨r,0,hv,λ_=>⟨rfl,hr⟩,λh=>absurd h c⟩
 refine both.mono λv V62 l62 ⟨r53,r54,hv,q1,q2⟩=>⟨r53,r54,hv,?_⟩;have L53:=Gx l54 (Gx l55 (Gx L55 (Gx l61 l62)));have L49:=Gx l51 (Gx l52 (Gx l53 L53));refine⟨⟨0,rfl,by omega,λk hk=>absurd hk (by omega),hrow.le L49,hw.le L53,q1,q2⟩,?_⟩;clear both yes no zN1 g41 g41' g43 g43' g45 g45' g51 n47 n49 hN q1 q2 fu hM zM;rintro⟨t260⟩ V63 l63 ⟨t,et,ht,hne,hrow,hw,q1,q2⟩;dsimp only at et hrow hw q1 q2 ⊢;subst et;refine⟨λhlt => ?_,λhge => ?_⟩
 . have ht4:t<4:=by have:=Ak hlt; simp at this; omega
   obtain⟨c1,x,⟨x18,rfl,n18⟩,_,c2,c3⟩:=Hf hw (t:=(t:Int)) (by omega) (by rw[Aa]; exact M04 ht4 W);refine⟨⟨by omega,by omega,rfl⟩,x18,c2,c3,?_⟩;refine(e07 n18 (Ah (zW t ht4) (by decide))).mono λv V64 l64 hv=>⟨_,hv,λc => ?_,λc => ?_⟩
   . have c:W t=Cq.zero:=by simpa using c
     have e3:=q2 ⟨t,ht4,c⟩;rw[e3];exact⟨λ_=>aw,λc=>absurd c (by decide)⟩
   have c:W t≠Cq.zero:=by simpa using c
   rw[i64w (by omega) (by omega)];refine⟨⟨t+1,rfl,by omega,λk hk => ?_,hrow.le l64,hw.le l64,λh=>⟨(q1 h).1,Hi Hh l64 (q1 h).2⟩,q2⟩,by omega⟩;by_cases ek:k=t
   . subst ek; exact c
   exact hne k (by omega)
 have e:t=4:=by have:=Al hge; simp at this; omega
 subst e;obtain⟨q1,q3⟩:=q1 hne;rw[q1];refine⟨λc=>absurd c (by decide),λ_ => ?_⟩;refine(N0q (i:=0) q3 (λrow hr=>Ah (h64 row hr) (by decide))).mono λv V66 l66 ⟨r57,r58,hv,k57,_⟩=>⟨r57,r58,hv,?_⟩;obtain⟨e58,h57⟩:=k57 ⟨by decide,by show(0:Int)<((1:Nat):Int); decide⟩;rw[e58];refine⟨λ_ b16 V67 l67 _ hb16 b17 V68 l68 _ hb17 => ?_,λc=>absurd c (by decide)⟩;refine(K0f (Hi Hh l68 (a0i hb16 h57 l67)) (a0i (s:=⟨some ⟨b7,0,none⟩,4,4⟩) hb17 hrow (Gx l66 (Gx l67 l68))) (by show 1<=64; decide) h64 okF).mono λv V69 l69 hv=>⟨_,hv,λ_=>aw,λc=>absurd c (by simp)⟩
