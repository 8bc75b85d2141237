/- Part of the proof; it has the parts CLs1 CLs CTrn CTgN CTgR CGatN CRows CTgL. -/
import Derived.Test.YtfdaofhjkdabbaaGreatPartD
namespace Go.Proofs.YtfdaofhjkdabbaaGreat
open Go Go.Vc Go.Proofs
theorem refConjugates_spec {V:View} {s:Sl} {zs:List Cq} (h:QsAt V s zs) (hn:zs.length≤2^32) :
 CallV Tryz.prog n_waveportref07_conjugates #[s.v] V fun v V'=>∃r:Sl,v=r.v∧QsAt V' r (conjF zs):=by
 have hl:=h.len
 refine waveportref07_conjugates_vc s V _ (fun _ x V'=>∃k:Nat,x.t4=(k:Int)∧k≤zs.length∧OptIn qC V' x.o7 zs.length (seqF (fun i=>(nth zs i).conj) k)) (fun _ x _=>(zs.length-x.t4).toNat) ?_
 rw[hl,Int.toNat_natCast]
 refine⟨⟨by omega,by omega,by omega,by omega⟩,⟨0,rfl,by omega,OptIn.start qC V _ _⟩,?_⟩
 rintro⟨t,o⟩ V1 l1 ⟨k,rfl,hk,ho⟩
 dsimp only at ho ⊢
 refine⟨fun hlt => ?_,fun hge b V3 l3 hb => ?_⟩
 · simp only[decide_eq_true_eq]at hlt
   have hk':k<zs.length:=by omega
   obtain⟨hb,x,hx,hs,hnx⟩:=(h.le l1).get (t:=(k:Int)) (by omega) (by rw[Int.toNat_natCast]; exact hk')
   rw[hl]at hb
   rw[Int.toNat_natCast]at hnx
   refine⟨hb,x,hx,hs,(ref1_Conj_spec hnx).mono fun v V2 l2 ⟨r,hv,hr⟩=>⟨r,hv,⟨by omega,by omega⟩,?_⟩⟩
   rw[Int.toNat_natCast,i64w (by omega) (by omega)]
   have ho2:=ho.le (qC.le l2)
   exact⟨ho2.room hk',⟨k+1,by omega,by omega,ho2.next hk' (q_len5 r) ⟨r,rfl,hr⟩⟩,by omega⟩
 · simp only[decide_eq_false_iff_not]at hge
   have hk':k=zs.length:=by omega
   subst hk'
   exact⟨_,rfl,QsAt.of_made (zs:=conjF zs) hb ((ho.le (qC.le l3)).all fun p hp=>seqF_all hp) (by simp[conjF])⟩
theorem refDivided_spec {V:View} {s:Sl} {zs:List Cq} (h:QsAt V s zs) (h1:1≤zs.length) (hn:zs.length≤64) (hS:∀i,i<zs.length→(nth zs i).sz≤2^39) :
 CallV Tryz.prog n_waveportref07_divided #[s.v] V fun v V'=>∃r:Sl,v=r.v∧QsAt V' r (sharesF zs):=by
 have hl:=h.len
 refine waveportref07_divided_vc s V _ (fun _ x V'=>∃k:Nat,x.t6=(k:Int)∧k≤zs.length∧OptIn qC V' x.o15 zs.length (seqF (fun i=>nth zs i*partQ zs.length) k)) (fun _ x _=>(zs.length-x.t6).toNat) ?_
 rw[hl]
 refine(ref1_New_spec (by omega) (by omega) (by omega) (by omega) (by omega) (by omega) (by omega)).mono fun v V1 l1 ⟨r1,hv,g1⟩=>⟨r1,0,hv,?_⟩
 rw[Int.toNat_natCast]
 refine⟨⟨by omega,by omega,by omega,by omega⟩,⟨0,rfl,by omega,OptIn.start qC V1 _ _⟩,?_⟩
 rintro⟨t,o⟩ V2 l2 ⟨k,rfl,hk,ho⟩
 dsimp only at ho ⊢
 refine⟨fun hlt => ?_,fun hge b V3 l3 hb => ?_⟩
 · simp only[decide_eq_true_eq]at hlt
   have hk':k<zs.length:=by omega
   obtain⟨hb,x,hx,hs,hnx⟩:=(h.le (View.le_trans l1 l2)).get (t:=(k:Int)) (by omega) (by rw[Int.toNat_natCast]; exact hk')
   rw[hl]at hb
   rw[Int.toNat_natCast]at hnx
   have hs1:=hS k hk'
   have hs2:=partQ_sz h1 hn
   refine⟨hb,x,hx,hs,(ref1_Mul_spec hnx (g1.le l2) (by omega) (by show(partQ zs.length).sz≤_; omega)).mono fun v V3 l3 ⟨r,hv,hr⟩=>⟨r,hv,⟨by omega,by omega⟩,?_⟩⟩
   rw[Int.toNat_natCast,i64w (by omega) (by omega)]
   have ho2:=ho.le (qC.le l3)
   exact⟨ho2.room hk',⟨k+1,by omega,by omega,ho2.next hk' (q_len5 r) ⟨r,rfl,hr⟩⟩,by omega⟩
 · simp only[decide_eq_false_iff_not]at hge
   have hk':k=zs.length:=by omega
   subst hk'
   exact⟨_,rfl,QsAt.of_made (zs:=sharesF zs) hb ((ho.le (qC.le l3)).all fun p hp=>seqF_all hp) (by simp[sharesF])⟩
theorem refEvery_spec {V:View} {s:Sl} {zs:List Cq} {a:Int} (h:QsAt V s zs) (ha:0≤a) (ha1:a≤1) (hn:zs.length≤2^32) (hn1:1≤zs.length) :
 CallV Tryz.prog n_waveportref07_every #[s.v,.int .i64 a] V fun v V'=>∃r:Sl,v=r.v∧QsAt V' r (everyF zs a.toNat):=by
 have hl:=h.len
 refine waveportref07_every_vc s a V _ (fun _ x V'=>∃l,x.t6=a+2*x.t5l∧2*x.t5l+a.toNat≤zs.length+1∧LstOk 5 x.t5l x.t5c x.o7 l∧QsIn V' l ((List.range x.t5l).map fun k=>nth zs (a.toNat+2*k)))
  (fun _ x _=>zs.length+2-2*x.t5l) ⟨⟨[],by simp,by simp; omega,LstOk.nil,rfl⟩,?_⟩
 rintro⟨n,c,t,o⟩ V1 l1 ⟨l,ht,hm,hlo,hin⟩
 dsimp only at ht hm hlo hin ⊢
 refine⟨fun hlt => ?_,fun hge => ?_⟩
 · simp only[decide_eq_true_eq]at hlt
   obtain⟨hb,x,hx,hs,hnx⟩:=(h.le l1).get (t:=t) (by omega) (by omega)
   refine⟨hb,x,hx,hs,fun b V2 l2 hf hV2 => ?_⟩
   refine⟨l,_,hlo,has_block (l:=[.bool x.re.neg,x.re.mag.v,.bool x.im.neg,x.im.mag.v,x.under.v]) hV2,rfl,oneCell_num x,?_,?_,fun c1 l3 hl3 => ?_⟩
   · simp only[maxLen]; omega
   · omega
   · have e:IntKind.i64.wrap (t+2)=t+2:=i64w (by omega) (by omega)
     refine⟨⟨_,by rw[e]; omega,by omega,hl3,?_⟩,by omega⟩
     rw[←push_range]
     have e3:a.toNat+2*n=t.toNat:=by omega
     rw[e3]
     exact(hin.le l2).push (hnx.le l2)
 · simp only[decide_eq_false_iff_not]at hge
   intro b V3 l3 hb
   refine⟨_,rfl,?_⟩
   have e:n=(zs.length+1-a.toNat) / 2:=by omega
   unfold everyF
   rw[←e]
   obtain⟨o',ho'⟩:=hlo.split
   refine ListAt.of_block (o:=l) (o':=o') (b:=b) (fun hne => ?_) (hin.le l3) (by simp) hlo.le (fun _=>rfl)
   rw[←ho']at hne ⊢
   exact hb hne
def twoF (h k:Nat) (F:Nat→Cq) (p:Nat):Option Cq:=if p<k∨(h≤p∧p<h+k)then some (F p)else none
theorem twoF_zero (h:Nat) (F:Nat→Cq) (p:Nat):twoF h 0 F p=none:=by unfold twoF; rw[if_neg (by omega)]
theorem twoF_step {h k:Nat} (hk:k<h) (F:Nat→Cq) (p:Nat):(if p=k+h then some (F (k+h))else if p=k then some (F k)else twoF h k F p)=twoF h (k+1) F p:=by
 unfold twoF
 by_cases c:p=k+h
 · subst c; rw[if_pos rfl,if_pos (by omega)]
 · rw[if_neg c]
   by_cases c2:p=k
   · subst c2; rw[if_pos rfl,if_pos (by omega)]
   · rw[if_neg c2]
     by_cases c3:p<k∨(h≤p∧p<h+k)
     · rw[if_pos c3,if_pos (by omega)]
     · rw[if_neg c3,if_neg (by omega)]
theorem refStages_spec:∀(m:Nat) {V:View} {p w:Sl} {zs ws:List Cq} (S T:Nat),m≤6→zs.length=2^m→ws.length=2^m→QsAt V p zs→QsAt V w ws →
 (∀i,i<2^m→(nth zs i).sz≤S)→(∀i,i<2^m→(nth ws i).sz≤T)→2^m*(S+T+2)≤2^39 →
 CallV Tryz.prog n_waveportref07_stages #[p.v,w.v] V fun v V'=>∃r:Sl,v=r.v∧QsAt V' r (stageF m zs ws)
 | m,V,p,w,zs,ws,S,T,hm,hz,hw,hp,hq,hS,hT,hsz=>by
   have hpl:=hp.len
   have hwl:=hq.len
   have hpow:2^m≤64:=Nat.pow_le_pow_right (n:=2) (by omega) hm
   have hpos:0<2^m:=Nat.pow_pos (by omega)
   refine waveportref07_stages_vc p w V _ (fun c x V'=>∃m' k:Nat,m=m'+1∧x.t9=(k:Int)∧k≤2^m'∧OptIn qC V' x.o30 (2^m) (twoF (2^m') k fun i=>nth (stageF m zs ws) i))
    (fun _ x _=>(((2^m:Nat):Int)-x.t9).toNat) ⟨fun h1 => ?_,fun h1 => ?_⟩
   · have h1:p.len=1:=by have:(p.len:Int)=1:=(by simpa using h1); omega
     have hm0:m=0:=by
      rcases Nat.eq_zero_or_pos m with h|h
      · exact h
      · have:2^1≤2^m:=Nat.pow_le_pow_right (by omega) h
        omega
     subst hm0
     obtain⟨hb,x,hx,hs,hnx⟩:=hp.get (t:=0) (by omega) (by simp[hz])
     refine⟨hb,x,hx,hs,fun b V1 l1 _ hb1=>⟨_,rfl,?_⟩⟩
     exact QsAt.of_made (zs:=stageF 0 zs ws) (o:=[.bool x.re.neg,x.re.mag.v,.bool x.im.neg,x.im.mag.v,x.under.v]) (by simpa using hb1) (Cells.one (z:=nth zs 0) rfl ⟨x,rfl,hnx.le l1⟩) rfl
   · have h1:p.len≠1:=by intro e; simp[e]at h1
     obtain ⟨m', rfl⟩ : ∃ m', m = m' + 1 := ⟨m - 1, by rcases Nat.eq_zero_or_pos m with h | h; · subst h; simp at hz; omega
                                                       · omega⟩
     have hp2:2^(m'+1)=2*2^m':=by rw[Nat.pow_succ]; omega
     have hmul:2^(m'+1)*(S+T+2)=2*(2^m'*(S+T+2)):=by rw[hp2,Nat.mul_assoc]
     have bz:∀a,a≤1→∀i,i<2^m'→(nth (everyF zs a) i).sz≤S:=by
      intro a ha i hi; rw[everyF_nth (by omega)]; exact hS _ (by omega)
     have bw:∀i,i<2^m'→(nth (everyF ws 0) i).sz≤T:=by
      intro i hi; rw[everyF_nth (by omega)]; exact hT _ (by omega)
     refine(refEvery_spec hp (Int.le_refl 0) (by omega) (by omega) (by omega)).mono fun v V1 l1 ⟨r1,hv,hr1⟩=>⟨r1,hv,?_⟩
     refine(refEvery_spec (hq.le l1) (Int.le_refl 0) (by omega) (by omega) (by omega)).mono fun v V2 l2 ⟨r2,hv,hr2⟩=>⟨r2,hv,?_⟩
     refine(refStages_spec m' S T (by omega) (by simp[everyF_length]; omega) (by simp[everyF_length]; omega) (hr1.le l2) hr2 (bz 0 (by omega)) bw (by omega)).mono fun v V3 l3 ⟨r3,hv,hr3⟩=>⟨r3,hv,?_⟩
     have L3:=View.le_trans l1 (View.le_trans l2 l3)
     refine(refEvery_spec (hp.le L3) (a:=1) (by omega) (by omega) (by omega) (by omega)).mono fun v V4 l4 ⟨r4,hv,hr4⟩=>⟨r4,hv,?_⟩
     refine(refEvery_spec (hq.le (View.le_trans L3 l4)) (Int.le_refl 0) (by omega) (by omega) (by omega)).mono fun v V5 l5 ⟨r5,hv,hr5⟩=>⟨r5,hv,?_⟩
     refine(refStages_spec m' S T (by omega) (by simp[everyF_length]; omega) (by simp[everyF_length]; omega) (hr4.le l5) hr5 (bz 1 (by omega)) bw (by omega)).mono fun v V6 l6 ⟨r6,hv,hr6⟩=>⟨r6,hv,?_⟩
     have L6:View.le V V6:=View.le_trans L3 (View.le_trans l4 (View.le_trans l5 l6))
     have hr6:QsAt V6 r6 (stageF m' (everyF zs 1) (everyF ws 0)):=hr6
     have h3:QsAt V6 r3 (stageF m' (everyF zs 0) (everyF ws 0)):=hr3.le (View.le_trans l4 (View.le_trans l5 l6))
     have hdiv:IntKind.i64.wrap (Int.tdiv (p.len:Int) 2)=((2^m':Nat):Int):=by
      have e:Int.tdiv (p.len:Int) 2=((2^m':Nat):Int):=by
       rw[Int.tdiv_eq_ediv_of_nonneg (by omega)]; omega
      rw[e]; exact i64w (by omega) (by omega)
     rw[hdiv,hpl,hz,Int.toNat_natCast]
     have lz:=stageF_length m' (everyF zs 0) (everyF ws 0)
     have lw:=stageF_length m' (everyF zs 1) (everyF ws 0)
     refine⟨⟨by omega,by omega,by omega,by omega⟩,⟨m',0,rfl,rfl,by omega,(OptIn.zeros qC V6 _).congr fun p _=>(twoF_zero _ _ p).symm⟩,?_⟩
     rintro⟨t,o⟩ V7 l7 ⟨m2,k,em,rfl,hk,ho⟩
     have em:m'=m2:=by omega
     subst em
     dsimp only at ho ⊢
     refine⟨fun hlt => ?_,fun hge b V12 l12 hb => ?_⟩
     · simp only[decide_eq_true_eq]at hlt
       have hk':k<2^m':=by omega
       have l6':=hr6.len
       have l3':=h3.len
       obtain⟨hb4,x4,hx4,hs4,hn4⟩:=(hr6.le l7).get (t:=(k:Int)) (by omega) (by rw[Int.toNat_natCast]; omega)
       obtain⟨hb5,x5,hx5,hs5,hn5⟩:=(hq.le (View.le_trans L6 l7)).get (t:=(k:Int)) (by omega) (by rw[Int.toNat_natCast]; omega)
       have sE:=stageF_sz m' (everyF zs 0) (everyF ws 0) S T (by simp[everyF_length]; omega) (by simp[everyF_length]; omega) (bz 0 (by omega)) bw k hk'
       have sO:=stageF_sz m' (everyF zs 1) (everyF ws 0) S T (by simp[everyF_length]; omega) (by simp[everyF_length]; omega) (bz 1 (by omega)) bw k hk'
       have sW:=hT k (by omega)
       have hm2:S+T+2≤2^m'*(S+T+2):=Nat.le_mul_of_pos_left _ (Nat.pow_pos (by omega))
       have sU:=Cq.sz_mul (nth (stageF m' (everyF zs 1) (everyF ws 0)) k) (nth ws k)
       rw[Int.toNat_natCast]at hn4 hn5
       refine⟨hb4,x4,hx4,hs4,hb5,x5,hx5,hs5,(ref1_Mul_spec hn4 hn5 (by omega) (by omega)).mono fun v V8 l8 ⟨r7,hv,hr7⟩=>⟨r7,hv,?_⟩⟩
       obtain⟨hb6,x6,hx6,hs6,hn6⟩:=(h3.le (View.le_trans l7 l8)).get (t:=(k:Int)) (by omega) (by rw[Int.toNat_natCast]; omega)
       have hn6':QAt V8 x6 (nth (stageF m' (everyF zs 0) (everyF ws 0)) k):=by rw[Int.toNat_natCast]at hn6; exact hn6
       refine⟨hb6,x6,hx6,hs6,(ref1_Add_spec hn6' hr7 (by omega) (by omega)).mono fun v V9 l9 ⟨r8,hv,hr8⟩=>⟨r8,hv,⟨by omega,by omega⟩,?_⟩⟩
       rw[Int.toNat_natCast]
       have ho9:=ho.le (qC.le (View.le_trans l8 l9))
       refine⟨ho9.room (by omega),hb6,x6,?_,?_,(ref1_Sub_spec (hn6'.le l9) (hr7.le l9) (by omega) (by omega)).mono fun v V10 l10 ⟨r9,hv,hr9⟩=>⟨r9,hv,?_⟩⟩
       · rw[Int.toNat_natCast]at hx6; exact View.has_le l9 hx6
       · rw[Int.toNat_natCast]at hs6; exact hs6
       have ek:IntKind.i64.wrap ((k:Int)+((2^m':Nat):Int))=((k+2^m':Nat):Int):=by rw[i64w (by omega) (by omega)]; omega
       rw[ek,Int.toNat_natCast,i64w (by omega) (by omega)]
       have e1:nth (stageF (m'+1) zs ws) k=nth (stageF m' (everyF zs 0) (everyF ws 0)) k+nth (stageF m' (everyF zs 1) (everyF ws 0)) k*nth ws k:=by
        rw[stageF,nth_map (by omega),if_pos hk']
       have e2:nth (stageF (m'+1) zs ws) (k+2^m')=nth (stageF m' (everyF zs 0) (everyF ws 0)) k-nth (stageF m' (everyF zs 1) (everyF ws 0)) k*nth ws k:=by
        rw[stageF,nth_map (by omega),if_neg (by omega),Nat.add_sub_cancel]
       have ho10:=ho.le (qC.le (View.le_trans l8 (View.le_trans l9 l10)))
       have s1:=ho10.set (i:=k) (by omega) (q_len5 r8) (z:=nth (stageF (m'+1) zs ws) k) ⟨r8,rfl,by rw[e1]; exact hr8.le l10⟩
       have s2:=s1.set (i:=k+2^m') (by omega) (q_len5 r9) (z:=nth (stageF (m'+1) zs ws) (k+2^m')) ⟨r9,rfl,by rw[e2]; exact hr9⟩
       refine⟨⟨by omega,by omega⟩,s1.room (by omega),⟨m',k+1,rfl,by omega,by omega,s2.congr fun p _=>twoF_step hk' (fun i=>nth (stageF (m'+1) zs ws) i) p⟩,by omega⟩
     · simp only[decide_eq_false_iff_not]at hge
       have hk':k=2^m':=by omega
       subst hk'
       have h2:=list_of_nth (stageF (m'+1) zs ws)
       rw[stageF_length]at h2
       have ha:=(ho.le (qC.le l12)).all (F:=fun i=>nth (stageF (m'+1) zs ws) i) fun p hp=>by unfold twoF; rw[if_pos (by omega)]
       rw[h2]at ha
       exact⟨_,rfl,QsAt.of_made hb ha (by rw[stageF_length])⟩
theorem plainR_spec {V:View} {s:Sl} {rs:List RatV} (h:RatsAt V s rs) (hn:rs.length≤2^32) :
 CallV Tryz.prog n_waveportlaw07_plain #[s.v] V fun v V'=>∃r:Sl,v=r.v∧RatsAt V' r (rs.map smallR):=by
 have hl:=h.len
 let f:Nat→RatV:=fun i=>smallR (rnth rs i)
 refine waveportlaw07_plain_vc s V _ (fun _ x V'=>∃k:Nat,x.t11=(k:Int)∧k≤rs.length∧Cells 3 ratC V' x.o8 (rfilled rs.length k f)) (fun _ x _=>(rs.length-x.t11).toNat) ?_
 rw[hl,Int.toNat_natCast]
 refine⟨⟨by omega,by omega,by omega,by omega⟩,⟨0,rfl,by omega,?_⟩,?_⟩
 · have e:rfilled rs.length 0 f=List.replicate rs.length ⟨0,0,0⟩:=by simp[rfilled]
   rw[e]
   exact Cells.replicate rfl (ratC_of V 0 0 0) rs.length
 rintro⟨t,o⟩ V1 l1 ⟨k,rfl,hk,hin⟩
 dsimp only at hin ⊢
 refine⟨fun hlt => ?_,fun hge b V3 l3 hb => ?_⟩
 · simp only[decide_eq_true_eq]at hlt
   have hk':k<rs.length:=by omega
   obtain⟨hb,x,hx,_,hh,hs⟩:=ListAt.get (h.le l1) (t:=(k:Int)) (Int.natCast_nonneg _) (z:=rnth rs k) (by rw[Int.toNat_natCast]; simp[rnth,List.getD,hk'])
   rw[hl]at hb
   refine⟨hb,rnth rs k,hx▸hh,hs,(small_spec _).mono fun v V2 l2 hv=>⟨_,hv,⟨by omega,by omega⟩,?_⟩⟩
   rw[Int.toNat_natCast,i64w (by omega) (by omega)]
   refine⟨Cells.room hin (by rw[rfilled_length (by omega)]; omega),⟨k+1,by omega,by omega,?_⟩,by omega⟩
   rw[←rfilled_set hk']
   exact Cells.set0 (Cells.imp (P:=ratC) (V:=V1) (P':=ratC) (V':=V2) (fun _ _ h=>h) hin) (by rw[rfilled_length (by omega)]; omega) rfl (ratC_of V2 _ _ _)
 · simp only[decide_eq_false_iff_not]at hge
   have e:k=rs.length:=by omega
   subst e
   have e2:rfilled rs.length rs.length f=rs.map smallR:=by
    simp only[rfilled,Nat.sub_self,List.replicate_zero,List.append_nil,f]
    apply List.ext_getElem (by simp)
    intro i g1 g2
    have:i<rs.length:=by simpa using g2
    simp[rnth,List.getD,this]
   rw[e2]at hin
   exact⟨_,rfl,ListAt.of_made hb (Cells.imp (P:=ratC) (V:=V1) (P':=ratC) (V':=V3) (fun _ _ h=>h) hin) (by simp)⟩
section bad
variable {V:View} {p w:Sl} {zs ws:List Cq}
end bad
def fastL (zs ws:List Cq):List Cq:=stageF (Nat.log2 ws.length) zs ws
def backL (zs ws:List Cq):List Cq:=sharesF (stageF (Nat.log2 ws.length) zs (conjF ws))
theorem log2_pow (m:Nat):Nat.log2 (2^m)=m:=by simp
def okSz (S:Nat) (zs:List Cq):Prop:=∀z∈zs,z.sz≤S
theorem okSz.at {S:Nat} {zs:List Cq} (h:okSz S zs) (h1:1≤S) (i:Nat):(nth zs i).sz≤S:=by
 rcases Nat.lt_or_ge i zs.length with g|g
 · exact h _ (List.mem_of_getElem? (nth_get g))
 · have:nth zs i=Cq.zero:=by unfold nth; simp[List.getD,List.getElem?_eq_none g]
   rw[this]
   exact Nat.le_trans Cq.sz_zero h1
theorem okSz.of {S:Nat} {zs:List Cq} (h:∀i,i<zs.length→(nth zs i).sz≤S):okSz S zs:=fun z hz=>by
 obtain⟨i,hi,e⟩:=List.getElem_of_mem hz
 have:=h i hi
 have e2:nth zs i=z:=by unfold nth; simp[List.getD,hi,e]
 rw[e2]at this; exact this
theorem fastL_length {zs ws:List Cq} {m:Nat} (hw:ws.length=2^m):(fastL zs ws).length=2^m:=by unfold fastL; rw[hw,log2_pow,stageF_length]
theorem backL_length {zs ws:List Cq} {m:Nat} (hw:ws.length=2^m):(backL zs ws).length=2^m:=by unfold backL; rw[hw,log2_pow,sharesF_length,stageF_length]
theorem fastL_sz {zs ws:List Cq} {m S T:Nat} (hm:m≤6) (hz:zs.length=2^m) (hw:ws.length=2^m) (hS:okSz S zs) (hT:okSz T ws) (s1:1≤S) (t1:1≤T):okSz (64*(S+T+2)) (fastL zs ws):=by
 refine okSz.of fun i hi => ?_
 rw[fastL_length hw]at hi
 unfold fastL; rw[hw,log2_pow]
 have:=stageF_sz m zs ws S T hz hw (fun i _=>hS.at s1 i) (fun i _=>hT.at t1 i) i hi
 have h2:2^m≤2^6:=Nat.pow_le_pow_right (by omega) hm
 have:=Nat.mul_le_mul_right (S+T+2) h2
 omega
theorem backL_sz {zs ws:List Cq} {m S T:Nat} (hm:m≤6) (hz:zs.length=2^m) (hw:ws.length=2^m) (hS:okSz S zs) (hT:okSz T ws) (s1:1≤S) (t1:1≤T):okSz (64*(S+T+2)+9) (backL zs ws):=by
 refine okSz.of fun i hi => ?_
 rw[backL_length hw]at hi
 unfold backL; rw[hw,log2_pow]
 have hl:=stageF_length m zs (conjF ws)
 have h2:2^m≤2^6:=Nat.pow_le_pow_right (by omega) hm
 refine sharesF_sz _ _ (by rw[hl]; omega) (fun i hi => ?_) i (by rw[hl]; exact hi)
 rw[hl]at hi
 have hc:=conjF_sz ws T (fun i _=>hT.at t1 i)
 rw[hw]at hc
 have:=stageF_sz m zs (conjF ws) S T hz (by rw[conjF_length,hw]) (fun i _=>hS.at s1 i) hc i hi
 have:=Nat.mul_le_mul_right (S+T+2) h2
 omega
def tranL (back:Bool) (zs ws:List Cq):List Cq:=if back=true then backL zs ws else fastL zs ws
theorem tranL_length {back:Bool} {zs ws:List Cq} {m:Nat} (hw:ws.length=2^m):(tranL back zs ws).length=2^m:=by
 unfold tranL; split
 · exact backL_length hw
 · exact fastL_length hw
theorem tranL_sz {back:Bool} {zs ws:List Cq} {m S T:Nat} (hm:m≤6) (hz:zs.length=2^m) (hw:ws.length=2^m) (hS:okSz S zs) (hT:okSz T ws) (s1:1≤S) (t1:1≤T):okSz (64*(S+T+2)+9) (tranL back zs ws):=by
 unfold tranL; split
 · exact backL_sz hm hz hw hS hT s1 t1
 · exact fun z hz'=>Nat.le_trans (fastL_sz hm hz hw hS hT s1 t1 z hz') (by omega)
theorem lenB_pow2 {n:Nat} (h:lenB n=true):∃m,m≤6∧n=2^m:=by
 have hmem:n∈[1,2,4,8,16,32,64]:=by unfold lenB at h; exact List.contains_iff_mem.1 h
 simp only[List.mem_cons,List.not_mem_nil,or_false]at hmem
 rcases hmem with h|h|h|h|h|h|h
 · exact⟨0,by omega,h⟩
 · exact⟨1,by omega,h⟩
 · exact⟨2,by omega,h⟩
 · exact⟨3,by omega,h⟩
 · exact⟨4,by omega,h⟩
 · exact⟨5,by omega,h⟩
 · exact⟨6,by omega,h⟩
def bothOk (rows:List (List Cq)) (ws vs:List Cq):Bool:=lenB ws.length&&(lenB vs.length&&(decide (gcols rows=ws.length)&&decide (rows.length=vs.length)))
def bothE (rows:List (List Cq)) (ws vs:List Cq):Int:=if bothOk rows ws vs=true then 0 else 4
def bothF (back:Bool) (rows:List (List Cq)) (ws vs:List Cq):List (List Cq) :=
 turnG Cq.zero ((turnG Cq.zero (rows.map fun row=>tranL back row ws)).map fun row=>tranL back row vs)
def bothR (back:Bool) (rows:List (List Cq)) (ws vs:List Cq):List (List Cq):=if bothOk rows ws vs=true then bothF back rows ws vs else []
def okRows (S:Nat) (rows:List (List Cq)):Prop:=∀row∈rows,okSz S row
theorem turnG_sz {S:Nat} {rows:List (List Cq)} (h:okRows S rows) (h1:1≤S):okRows S (turnG Cq.zero rows):=by
 intro row hr z hz
 unfold turnG matL at hr
 obtain⟨j,_,rfl⟩:=List.mem_map.1 hr
 unfold rowL at hz
 obtain⟨i,hi,rfl⟩:=List.mem_map.1 hz
 have hi:i<rows.length:=by simpa using hi
 exact(h _ (List.mem_of_getElem? (getD_get hi []))).at h1 j
theorem map_rect {rows:List (List Cq)} {f:List Cq→List Cq} {n:Nat} (h:∀row∈rows,(f row).length=n):Rect (rows.map f)∧(0<rows.length→gcols (rows.map f)=n):=by
 cases rows with
 | nil=>exact⟨fun row hr=>by simp at hr,fun h=>by simp at h⟩
 | cons a l =>
   have e:gcols ((a::l).map f)=n:=by simpa [gcols]using h a (by simp)
   refine⟨fun row hr => ?_,fun _=>e⟩
   rw[e]
   obtain⟨r,hr2,rfl⟩:=List.mem_map.1 hr
   exact h r hr2
structure Mid (rows:List (List Cq)) (n m:Nat):Prop where
 rect:Rect rows
 len:rows.length=2^n
 cols:gcols rows=2^m
theorem Mid.row {rows:List (List Cq)} {n m:Nat} (h:Mid rows n m):∀row∈rows,row.length=2^m:=fun row hr=>by rw[h.rect row hr,h.cols]
theorem Mid.map {rows:List (List Cq)} {n m:Nat} (h:Mid rows n m) (back:Bool) {ws:List Cq} (hw:ws.length=2^m):Mid (rows.map fun row=>tranL back row ws) n m:=by
 obtain⟨h1,h2⟩:=map_rect (rows:=rows) (f:=fun row=>tranL back row ws) (n:=2^m) fun row _=>tranL_length hw
 exact⟨h1,by rw[List.length_map,h.len],h2 (by rw[h.len]; exact Nat.pow_pos (by omega))⟩
theorem Mid.turn {rows:List (List Cq)} {n m:Nat} (h:Mid rows n m):Mid (turnG Cq.zero rows) m n :=
 ⟨turnG_rect _ _,by rw[turnG_length,h.cols],by rw[turnG_cols _ (by rw[h.cols]; exact Nat.pow_pos (by omega)),h.len]⟩
theorem bothOk_mid {rows:List (List Cq)} {ws vs:List Cq} (h:bothOk rows ws vs=true) (hr:Rect rows):∃n m,n≤6∧m≤6∧ws.length=2^m∧vs.length=2^n∧Mid rows n m:=by
 unfold bothOk at h
 simp only[Bool.and_eq_true,decide_eq_true_eq]at h
 obtain⟨h1,h2,h3,h4⟩:=h
 obtain⟨m,hm,e1⟩:=lenB_pow2 h1
 obtain⟨n,hn,e2⟩:=lenB_pow2 h2
 exact⟨n,m,hn,hm,e1,e2,hr,by rw[h4,e2],by rw[h3,e1]⟩
theorem map_sz {rows:List (List Cq)} {n m S T:Nat} (h:Mid rows n m) (hm:m≤6) (back:Bool) {ws:List Cq} (hw:ws.length=2^m) (hS:okRows S rows) (hT:okSz T ws) (s1:1≤S) (t1:1≤T) :
 okRows (64*(S+T+2)+9) (rows.map fun row=>tranL back row ws):=by
 intro row hr
 obtain⟨r,hr2,rfl⟩:=List.mem_map.1 hr
 exact tranL_sz hm (h.row r hr2) hw (hS r hr2) hT s1 t1
theorem bothF_mid {rows:List (List Cq)} {n m:Nat} (h:Mid rows n m) (back:Bool) {ws vs:List Cq} (hw:ws.length=2^m) (hv:vs.length=2^n):Mid (bothF back rows ws vs) n m:=(((h.map back hw).turn).map back hv).turn
theorem bothF_sz {rows:List (List Cq)} {n m S T:Nat} (h:Mid rows n m) (hn:n≤6) (hm:m≤6) (back:Bool) {ws vs:List Cq} (hw:ws.length=2^m) (hv:vs.length=2^n) (hS:okRows S rows) (hT:okSz T ws) (hT2:okSz T vs) (s1:1≤S) (t1:1≤T) :
 okRows (64*(64*(S+T+2)+9+T+2)+9) (bothF back rows ws vs):=by
 have a1:=turnG_sz (map_sz h hm back hw hS hT s1 t1) (by omega)
 exact turnG_sz (map_sz ((h.map back hw).turn) hn back hv a1 hT2 (by omega) t1) (by omega)
theorem bothR_rect (back:Bool) (rows:List (List Cq)) (ws vs:List Cq):Rect (bothR back rows ws vs):=by
 unfold bothR; split
 · exact turnG_rect _ _
 · intro row hr; simp at hr
theorem Fast_at {V:View} {p w:Sl} {m:Nat} {zs ws:List Cq} (S T:Nat) (hm:m≤6) (hz:zs.length=2^m) (hw:ws.length=2^m) (hp:NumsAt V p zs) (hq:NumsAt V w ws) (hS:okSz S zs) (hT:okSz T ws) (s1:1≤S) (t1:1≤T)
 (hsz:64*(S+T+2)≤2^39):CallV Tryz.prog n_transform_Fast_num_Num_ #[p.v,w.v] V fun v V'=>∃r:Sl,v = .tuple #[r.v,.int .i64 0]∧NumsAt V' r (tranL false zs ws):=by
 have h2:2^m≤2^6:=Nat.pow_le_pow_right (by omega) hm
 have h3:=Nat.mul_le_mul_right (S+T+2) h2
 refine(transform_Fast_spec S T hm hz hw hp hq (fun i _=>hS.at s1 i) (fun i _=>hT.at t1 i) (by omega)).mono fun v V1 _ ⟨r,hv,hr⟩=>⟨r,hv,?_⟩
 unfold tranL fastL; rw[hw,log2_pow]; exact hr
theorem FastBack_at {V:View} {p w:Sl} {m:Nat} {zs ws:List Cq} (S T:Nat) (hm:m≤6) (hz:zs.length=2^m) (hw:ws.length=2^m) (hp:NumsAt V p zs) (hq:NumsAt V w ws) (hS:okSz S zs) (hT:okSz T ws) (s1:1≤S) (t1:1≤T)
 (hsz:64*(S+T+2)≤2^39):CallV Tryz.prog n_transform_FastBack_num_Num_ #[p.v,w.v] V fun v V'=>∃r:Sl,v = .tuple #[r.v,.int .i64 0]∧NumsAt V' r (tranL true zs ws):=by
 refine(FastBack_spec S T hm hz hw hp hq (fun i _=>hS.at s1 i) (fun i _=>hT.at t1 i) hsz).mono fun v V1 _ ⟨r,hv,hr⟩=>⟨r,hv,?_⟩
 unfold tranL backL; rw[hw,log2_pow]; exact hr
def tfn (back:Bool):FuncId:=if back=true then n_transform_FastBack_num_Num_ else n_transform_Fast_num_Num_
theorem bothC_spec {V:View} {s w:Sl} {pf pw:Option Addr} {m:Nat} {zs ws:List Cq} (back:Bool) (S T:Nat) (hf:V.load pf=some (.func (.func (tfn back)) #[] #[])) (hl:V.load pw=some w.v) (hm:m≤6) (hz:zs.length=2^m) (hw:ws.length=2^m) (hp:NumsAt V s zs) (hq:NumsAt V w ws)
 (hS:okSz S zs) (hT:okSz T ws) (s1:1≤S) (t1:1≤T) (hsz:64*(S+T+2)≤2^39) :
 CallV Tryz.prog n_transform_both_num_Num__1_1 #[s.v,.pointer pf,.pointer pw] V fun v V'=>∃r:Sl,v=r.v∧NumsAt V' r (tranL back zs ws):=by
 cases back with
 | true=>exact transform_both_num_Num__1_1__transform_FastBack_num_Num__vc s pf pw V _ ⟨⟨⟩,hf,w,hl,(FastBack_at S T hm hz hw hp hq hS hT s1 t1 hsz).mono fun v V1 _ ⟨r,hv,hr⟩=>⟨r,0,hv,r,rfl,hr⟩⟩
 | false=>exact transform_both_num_Num__1_1__transform_Fast_num_Num__vc s pf pw V _ ⟨⟨⟩,hf,w,hl,(Fast_at S T hm hz hw hp hq hS hT s1 t1 hsz).mono fun v V1 _ ⟨r,hv,hr⟩=>⟨r,0,hv,r,rfl,hr⟩⟩
theorem along_spec {V:View} {g:GridV} {f:Fn2} {w:Sl} {m:Nat} {rows:List (List Cq)} {ws:List Cq} (back:Bool) (S T:Nat) (h:RowsV 5 numC V g.rows rows) (hn:rows.length≤2^20) (hf:V.load f.p0=some (.func (.func (tfn back)) #[] #[])) (hl:V.load f.p1=some w.v)
 (hm:m≤6) (hz:∀row∈rows,row.length=2^m) (hw:ws.length=2^m) (hq:NumsAt V w ws) (hS:∀row∈rows,okSz S row) (hT:okSz T ws) (s1:1≤S) (t1:1≤T) (hsz:64*(S+T+2)≤2^39) :
 CallV Tryz.prog n_transform_along_num_Num_ #[g.val,f.val n_transform_both_num_Num__1_1] V fun v V'=>∃r:GridV,v=r.val∧RowsV 5 numC V' r.rows (rows.map fun row=>tranL back row ws):=by
 have hgl:g.rows.len=rows.length:=h.len
 refine transform_along_num_Num__vc g f V _
  (fun _ x V'=>∃(t:Nat) (l:List Value),x.t11=t∧t≤rows.length∧LstOk 1 x.o5_0l x.o5_0c x.o21 l∧x.o5_0l=t∧Cells 1 (fun V x row=>∃s:Sl,x=[s.v]∧ListAt 5 numC V s row) V' l ((rows.take t).map fun row=>tranL back row ws))
  (fun _ x _=>rows.length-x.t11.toNat) ⟨⟨0,[],rfl,by omega,LstOk.nil,rfl,rfl⟩,?_⟩
 rintro⟨t11,o4,k,c,o⟩ V1 l1 ⟨t,l,et,ht,hL,ek,hC⟩
 dsimp only at et hL ek hC ⊢
 subst et; subst ek
 rw[hgl]
 refine⟨fun hlt => ?_,fun hge => ?_⟩
 · have hk:k<rows.length:=by simp at hlt; omega
   have ek:=getD_get hk []
   have hmem:=List.mem_of_getElem? ek
   obtain⟨g1,s,h1,h2⟩:=(RowsV.le numC.le l1 h).row (t:=(k:Int)) (by omega) (row:=rows.getD k []) (by rw[Int.toNat_natCast]; exact ek)
   rw[hgl]at g1
   have tk:(rows.take (k+1)).map (fun row=>tranL back row ws)=(rows.take k).map (fun row=>tranL back row ws)++[tranL back (rows.getD k []) ws]:=by rw[List.take_add_one,ek]; simp
   generalize rows.getD k []=row at *
   refine⟨g1,s,h1,(bothC_spec back S T (View.load_le l1 hf) (View.load_le l1 hl) hm (hz _ hmem) hw h2 (hq.le l1) (hS _ hmem) hT s1 t1 hsz).mono fun v V2 l2 ⟨r1,hv,hr⟩=>⟨r1,hv,fun b1 V3 l3 _ hb1 => ?_⟩⟩
   have hnew:V3.has (some (Addr.mk b1 0 none)) [r1.v]:=rhas_block (cs:=[r1.v]) (j:=0) hb1 (fun i v hv=>by rw[Nat.zero_add]; exact hv) rfl
   refine⟨l,_,hL,hnew,rfl,by intro v hv; simp at hv; subst hv; rfl,by unfold maxLen; omega,by omega,fun c1 l3' hl3 => ?_⟩
   rw[i64w (by omega) (by omega)]
   have L23:=View.le_trans l2 l3
   refine⟨⟨k+1,_,by omega,by omega,hl3,rfl,?_⟩,by omega⟩
   rw[tk]
   exact(hC.imp fun _ _ ⟨s,e,hs⟩=>⟨s,e,ListAt.le (numC.le L23) L23 hs⟩).append (Cells.one rfl ⟨_,rfl,NumsAt.le l3 hr⟩)
 · have e:k=rows.length:=by simp at hge; omega
   subst e
   rw[List.take_length]at hC
   intro b2 V4 l4 hb2
   exact⟨_,rfl,ListAt.of_lst hL hb2 (hC.imp fun _ _ ⟨s,e,hs⟩=>⟨s,e,ListAt.le (numC.le l4) l4 hs⟩) (by rw[List.length_map])⟩
theorem both1_spec {V:View} {w:Sl} {pf:Option Addr} {ws:List Cq} (hq:NumsAt V w ws) :
 CallV Tryz.prog n_transform_both_num_Num__1 #[w.v,.pointer pf] V fun v V'=>∃r:Fn2,v=r.val n_transform_both_num_Num__1_1∧r.p0=pf∧V'.load r.p1=some w.v:=by
 refine transform_both_num_Num__1_vc w pf V _ fun b1 V1 l1 hb1=>⟨_,rfl,rfl,?_⟩
 have:=load_block (j:=0) hb1
 simpa [Addr.add]using this
theorem both_spec {V:View} {g:GridV} {w v:Sl} {rows:List (List Cq)} {ws vs:List Cq} (back:Bool) (S T:Nat) (h:RowsV 5 numC V g.rows rows) (hr:Rect rows) (hq:NumsAt V w ws) (hv:NumsAt V v vs)
 (hS:okRows S rows) (hT:okSz T ws) (hT2:okSz T vs) (s1:1≤S) (t1:1≤T) (hsz:64*(64*(S+T+2)+9+T+2)≤2^39) :
 CallV Tryz.prog n_transform_both_num_Num_ #[g.val,w.v,v.v,.func (.func (tfn back)) #[] #[]] V fun u V'=>∃r:GridV,u = .tuple #[r.val,.int .i64 (bothE rows ws vs)]∧RowsV 5 numC V' r.rows (bothR back rows ws vs):=by
 have hwl:=hq.len
 have hvl:=hv.len
 have bad:∀V':View,bothOk rows ws vs=false→∃r:GridV,Value.tuple #[(GridV.mk (Sl.mk none 0 0)).val,.int .i64 4] = .tuple #[r.val,.int .i64 (bothE rows ws vs)]∧RowsV 5 numC V' r.rows (bothR back rows ws vs):=fun V' e=>by
  refine⟨⟨⟨none,0,0⟩⟩,?_,?_⟩
  · unfold bothE; rw[e]; rfl
  · unfold bothR; rw[e]; exact ListAt.nil
 have tail:bothOk rows ws vs=true→∀(V3:View),V.le V3→∀(b1:Nat) (V4:View),V3.le V4→V4 b1=some (List.toArray ([.func (.func (tfn back)) #[] #[]])) →
  CallV Tryz.prog n_transform_both_num_Num__1 #[w.v,.pointer (some (Addr.mk b1 0 none))] V4 fun u V5=>∃r5:Fn2,u=r5.val n_transform_both_num_Num__1_1 ∧
  CallV Tryz.prog n_transform_along_num_Num_ #[g.val,r5.val n_transform_both_num_Num__1_1] V5 fun u V6=>∃r6:GridV,u=r6.val ∧
  CallV Tryz.prog n__transform_Grid_num_Num___Turned #[r6.val] V6 fun u V7=>∃r7:GridV,u=r7.val ∧
  CallV Tryz.prog n_transform_both_num_Num__1 #[v.v,.pointer (some (Addr.mk b1 0 none))] V7 fun u V8=>∃r8:Fn2,u=r8.val n_transform_both_num_Num__1_1 ∧
  CallV Tryz.prog n_transform_along_num_Num_ #[r7.val,r8.val n_transform_both_num_Num__1_1] V8 fun u V9=>∃r9:GridV,u=r9.val ∧
  CallV Tryz.prog n__transform_Grid_num_Num___Turned #[r9.val] V9 fun u V10=>∃r10:GridV,u=r10.val ∧
  ∃r:GridV,Value.tuple #[r10.val,.int .i64 0] = .tuple #[r.val,.int .i64 (bothE rows ws vs)]∧RowsV 5 numC V10 r.rows (bothR back rows ws vs):=fun ok V3 l3 b1 V4 l4 hb1=>by
  obtain⟨n,m,hn,hm,ew,ev,M⟩:=bothOk_mid ok hr
  have L4:=View.le_trans l3 l4
  have p6:2^n≤2^6:=Nat.pow_le_pow_right (by omega) hn
  have q6:2^m≤2^6:=Nat.pow_le_pow_right (by omega) hm
  have hf:V4.load (some (Addr.mk b1 0 none))=some (.func (.func (tfn back)) #[] #[]):=by
   have:=load_block (j:=0) hb1
   simpa [Addr.add]using this
  refine(both1_spec (hq.le L4)).mono fun u V5 l5 ⟨r5,hu,e1,e2⟩=>⟨r5,hu,?_⟩
  have L5:=View.le_trans L4 l5
  refine(along_spec (w:=w) back S T (RowsV.le numC.le L5 h) (by rw[M.len]; omega) (by rw[e1]; exact View.load_le l5 hf) e2 hm M.row ew (hq.le L5) hS hT s1 t1 (by omega)).mono fun u V6 l6 ⟨r6,hu,h6⟩=>⟨r6,hu,?_⟩
  have M1:=M.map back ew
  have z1:=map_sz M hm back ew hS hT s1 t1
  refine(Turned_num_Num_spec h6 M1.rect (by rw[M1.len]; omega) (by rw[M1.cols]; omega) Cq.zero).mono fun u V7 l7 ⟨r7,hu,h7⟩=>⟨r7,hu,?_⟩
  have M2:=M1.turn
  have z2:=turnG_sz z1 (by omega)
  have L7:=View.le_trans L5 (View.le_trans l6 l7)
  refine(both1_spec (hv.le L7)).mono fun u V8 l8 ⟨r8,hu,e3,e4⟩=>⟨r8,hu,?_⟩
  have L8:=View.le_trans L7 l8
  refine(along_spec (w:=v) back _ T (RowsV.le numC.le l8 h7) (by rw[M2.len]; omega) (by rw[e3]; exact View.load_le (View.le_trans l5 (View.le_trans l6 (View.le_trans l7 l8))) hf) e4 hn M2.row ev (hv.le L8) z2 hT2 (by omega) t1 (by omega)).mono fun u V9 l9 ⟨r9,hu,h9⟩=>⟨r9,hu,?_⟩
  have M3:=M2.map back ev
  refine(Turned_num_Num_spec h9 M3.rect (by rw[M3.len]; omega) (by rw[M3.cols]; omega) Cq.zero).mono fun u V10 l10 ⟨r10,hu,h10⟩=>⟨r10,hu,r10,?_,?_⟩
  · unfold bothE; rw[ok]; rfl
  · unfold bothR; rw[if_pos ok]; exact h10
 have len:∀ {V':View} (n:Nat),CallV Tryz.prog n_transform_length #[.int .i64 (n:Int)] V' fun u _=>u = .bool (lenB n):=fun {V'} n=>(transform_length_spec (by omega)).mono fun u _ _ hu=>by rw[hu,Int.toNat_natCast]
 have b1:lenB ws.length=false→bothOk rows ws vs=false:=fun e=>by unfold bothOk; rw[e]; rfl
 have b2:lenB vs.length=false→bothOk rows ws vs=false:=fun e=>by unfold bothOk; rw[e]; simp
 have b3:gcols rows≠ws.length→bothOk rows ws vs=false:=fun e=>by unfold bothOk; simp[e]
 have b4:rows.length≠vs.length→bothOk rows ws vs=false:=fun e=>by unfold bothOk; simp[e]
 cases back with
 | false =>
   refine transform_both_num_Num___transform_Fast_num_Num__vc g w v ⟨⟩ V _ ((Size_num_Num_spec h).mono fun u V1 l1 hu=>⟨_,_,hu,?_⟩)
   rw[hwl,hvl]
   refine(len _).mono fun u V2 l2 hu=>⟨_,hu,fun c=>bad V2 (b1 (by simpa using c)),fun c=>(len _).mono fun u V3 l3 hu=>⟨_,hu,fun c2=>bad V3 (b2 (by simpa using c2)),fun c2=>⟨fun c3=>bad V3 (b3 fun e => ?_),fun c3=>⟨fun c4=>bad V3 (b4 fun e => ?_),fun c4 => ?_⟩⟩⟩⟩
   · rw[e]at c3; simp at c3
   · rw[e]at c4; simp at c4
   · refine tail ?_ V3 (View.le_trans l1 (View.le_trans l2 l3))
     unfold bothOk
     simp at c c2 c3 c4
     have c3:gcols rows=ws.length:=by omega
     have c4:rows.length=vs.length:=by omega
     rw[c,c2,decide_eq_true c3,decide_eq_true c4]; rfl
 | true =>
   refine transform_both_num_Num___transform_FastBack_num_Num__vc g w v ⟨⟩ V _ ((Size_num_Num_spec h).mono fun u V1 l1 hu=>⟨_,_,hu,?_⟩)
   rw[hwl,hvl]
   refine(len _).mono fun u V2 l2 hu=>⟨_,hu,fun c=>bad V2 (b1 (by simpa using c)),fun c=>(len _).mono fun u V3 l3 hu=>⟨_,hu,fun c2=>bad V3 (b2 (by simpa using c2)),fun c2=>⟨fun c3=>bad V3 (b3 fun e => ?_),fun c3=>⟨fun c4=>bad V3 (b4 fun e => ?_),fun c4 => ?_⟩⟩⟩⟩
   · rw[e]at c3; simp at c3
   · rw[e]at c4; simp at c4
   · refine tail ?_ V3 (View.le_trans l1 (View.le_trans l2 l3))
     unfold bothOk
     simp at c c2 c3 c4
     have c3:gcols rows=ws.length:=by omega
     have c4:rows.length=vs.length:=by omega
     rw[c,c2,decide_eq_true c3,decide_eq_true c4]; rfl
theorem ForwardGrid_spec {V:View} {g:GridV} {w v:Sl} {rows:List (List Cq)} {ws vs:List Cq} (S T:Nat) (h:RowsV 5 numC V g.rows rows) (hr:Rect rows) (hq:NumsAt V w ws) (hv:NumsAt V v vs)
 (hS:okRows S rows) (hT:okSz T ws) (hT2:okSz T vs) (s1:1≤S) (t1:1≤T) (hsz:64*(64*(S+T+2)+9+T+2)≤2^39) :
 CallV Tryz.prog n_transform_ForwardGrid_num_Num_ #[g.val,w.v,v.v] V fun u V'=>∃r:GridV,u = .tuple #[r.val,.int .i64 (bothE rows ws vs)]∧RowsV 5 numC V' r.rows (bothR false rows ws vs) :=
 transform_ForwardGrid_num_Num__vc g w v V _ ((both_spec false S T h hr hq hv hS hT hT2 s1 t1 hsz).mono fun u V1 _ ⟨r,hu,h1⟩=>⟨r,_,hu,r,rfl,h1⟩)
theorem BackGrid_spec {V:View} {g:GridV} {w v:Sl} {rows:List (List Cq)} {ws vs:List Cq} (S T:Nat) (h:RowsV 5 numC V g.rows rows) (hr:Rect rows) (hq:NumsAt V w ws) (hv:NumsAt V v vs)
 (hS:okRows S rows) (hT:okSz T ws) (hT2:okSz T vs) (s1:1≤S) (t1:1≤T) (hsz:64*(64*(S+T+2)+9+T+2)≤2^39) :
 CallV Tryz.prog n_transform_BackGrid_num_Num_ #[g.val,w.v,v.v] V fun u V'=>∃r:GridV,u = .tuple #[r.val,.int .i64 (bothE rows ws vs)]∧RowsV 5 numC V' r.rows (bothR true rows ws vs) :=
 transform_BackGrid_num_Num__vc g w v V _ ((both_spec true S T h hr hq hv hS hT hT2 s1 t1 hsz).mono fun u V1 _ ⟨r,hu,h1⟩=>⟨r,_,hu,r,rfl,h1⟩)
structure TRows (m V:View) (b0:Nat) (ol:List Value) (t w n:Nat) (A:Nat→Nat→Cq) (bs:Nat→Nat):Prop where
 top:m b0=some ol.toArray
 len:ol.length=w
 row:∀i,i<t→ol[i]?=some (.slice (some ⟨bs i,0,none⟩) n n)∧bs i≠b0∧∃l:List Value,m (bs i)=some l.toArray∧Cells 5 qC V l (rowL n (A i))
theorem TRows.known {m V V':View} {b0 w n:Nat} {ol:List Value} {A:Nat→Nat→Cq} {bs:Nat→Nat} (h:TRows m V b0 ol w w n A bs) (hl:V.le V') (hm:∀b cs,m b=some cs→V' b=some cs) :
 RowsV 5 qC V' ⟨some ⟨b0,0,none⟩,w,w⟩ (matL w n A):=by
 have hC:Cells 1 (fun V x row=>∃s:Sl,x=[s.v]∧ListAt 5 qC V s row) V' ol (matL w n A):=by
  refine Cells.ofFn (by rw[h.len,matL_length]) fun i x row hx hr => ?_
  have hi:i<w:=by
   rcases Nat.lt_or_ge i w with g|g
   · exact g
   · rw[List.getElem?_eq_none (by rw[h.len]; exact g)]at hx; simp at hx
  rw[matL_get hi]at hr
  obtain rfl:=Option.some.inj hr
  obtain⟨h1,_,l,h2,h3⟩:=h.row i hi
  rw[h1]at hx
  obtain rfl:=Option.some.inj hx
  exact⟨⟨some ⟨bs i,0,none⟩,n,n⟩,rfl,ListAt.of_made (hm _ _ h2) (h3.imp (qC.le hl)) (by rw[rowL_length])⟩
 exact ListAt.of_made (hm _ _ h.top) hC (by rw[matL_length])
set_option maxHeartbeats 1000000 in
theorem r7_Turned_spec {V:View} {g:GridV} {rows:List (List Cq)} (h:RowsV 5 qC V g.rows rows) (hr:Rect rows) (hn:rows.length≤2^20) (hw:gcols rows≤2^20) :
 CallV Tryz.prog n_waveportref07_Turned #[g.val] V fun v V'=>∃r:GridV,v=r.val∧RowsV 5 qC V' r.rows (turnG Cq.zero rows):=by
 have hl:g.rows.len=rows.length:=h.len
 let A:Nat→Nat→Cq:=fun j i=>atG Cq.zero rows i j
 refine waveportref07_Turned_vc g V _
  (fun c x V'=>∃(b0 t:Nat) (ol:List Value) (bs:Nat→Nat),c.o3_0=⟨some ⟨b0,0,none⟩,gcols rows,gcols rows⟩∧x.t4=t∧t≤gcols rows∧TRows x.o0 V' b0 ol t (gcols rows) rows.length A bs) (fun _ x _=>gcols rows-x.t4.toNat)
  (fun c x V'=>∃(b0 t k:Nat) (ol l:List Value) (bs:Nat→Nat),c.o3_0=⟨some ⟨b0,0,none⟩,gcols rows,gcols rows⟩∧c.t4=t∧t<gcols rows∧x.t5=k∧k≤rows.length∧TRows x.o0 V' b0 ol t (gcols rows) rows.length A bs ∧
    ol[t]?=some (.slice (some ⟨bs t,0,none⟩) rows.length rows.length)∧bs t≠b0∧(∀i,i<t→bs i≠bs t)∧x.o0 (bs t)=some l.toArray∧OptIn qC V' l rows.length (seqF (A t) k)) (fun _ x _=>rows.length-x.t5.toNat) ?_
 rw[hl]
 refine⟨fun c=>⟨by decide,fun V1 l1 _=>⟨g,rfl,?_⟩⟩,fun c => ?_⟩
 · have e:rows=[]:=List.length_eq_zero_iff.1 (by simpa using c)
   subst e
   exact RowsV.le qC.le l1 h
 have hpos:0<rows.length:=by
  rcases Nat.eq_zero_or_pos rows.length with e|e
  · rw[e]at c; exact absurd c (by decide)
  · exact e
 obtain⟨row0,e0,e1⟩:=head_get hpos
 obtain⟨g0,s0,h3,h4⟩:=h.row (t:=(0:Int)) (by omega) (row:=row0) e0
 have hs0:s0.len=gcols rows:=by rw[←e1]; exact h4.len
 rw[hl]at g0
 refine⟨g0,s0,.inr h3,?_⟩
 rw[hs0,Int.toNat_natCast,Int.toNat_natCast]
 refine⟨⟨by omega,by omega,by omega,by omega⟩,fun b2 _ _=>⟨⟨b2,0,_,fun _=>0,rfl,rfl,by omega,⟨by simp only[View.upd,if_true]; rfl,by rw[flat1]; simp,fun i hi=>absurd hi (by omega)⟩⟩,?_⟩⟩
 rintro⟨t4,o0,o2⟩ V2 l2 ⟨b0,t,ol,bs,eb,et,ht,hT⟩
 dsimp only at eb et hT ⊢
 subst et
 obtain rfl:b2=b0:=by simpa using eb
 refine⟨fun hlt => ?_,fun hge => ?_⟩
 · have hk:t<gcols rows:=by simp at hlt; omega
   refine⟨⟨by omega,by omega,by omega,by omega⟩,fun b3 hb3 _=>⟨⟨by omega,by omega,rfl⟩,?_⟩⟩
   have nb:b3≠b2:=fun e=>by rw[e,hT.top]at hb3; simp at hb3
   have nbi:∀i,i<t→bs i≠b3:=fun i hi e=>by
    obtain⟨_,_,l,q,_⟩:=hT.row i hi
    rw[e,hb3]at q; simp at q
   refine⟨b2,t,ol,by rw[Int.toNat_natCast]; by_cases e:t=0<;>simp[Addr.add,e],by simp only[View.upd]; rw[if_neg (Ne.symm nb)]; exact hT.top,by rw[hT.len]; omega,?_,?_⟩
   · have es:setL ol t [Value.slice (some ⟨b3,0,none⟩) rows.length rows.length]=ol.set t (Value.slice (some ⟨b3,0,none⟩) rows.length rows.length):=by simp[setL]
     rw[es]
     refine⟨b2,t,0,_,_,fun i=>if i=t then b3 else bs i,rfl,rfl,hk,rfl,by omega,⟨by simp only[View.upd,if_true]; rfl,by rw[List.length_set]; exact hT.len,fun i hi => ?_⟩,?_,?_,fun i hi => ?_,?_,OptIn.start qC V2 _ _⟩
     · obtain⟨q1,q2,l,q3,q4⟩:=hT.row i hi
       simp only[if_neg (show ¬i=t by omega)]
       refine⟨by rw[List.getElem?_set,if_neg (by omega)]; exact q1,q2,l,?_,q4⟩
       simp only[View.upd]
       rw[if_neg q2,if_neg (nbi i hi)]; exact q3
     · simp only[if_true]
       rw[List.getElem?_set,if_pos rfl,if_pos (by rw[hT.len]; exact hk)]
     · simp only[if_true]; exact nb
     · simp only[if_true,if_neg (show ¬i=t by omega)]; exact nbi i hi
     · simp only[if_true,View.upd]
       rw[if_neg nb]
   rintro⟨t5,o0'⟩ V3 l3 ⟨b0',t',k,ol',l,bs',eb',et',_,ek,hkn,hT',hrow,hne,hinj,hbl,hO⟩
   dsimp only at eb' et' ek hT' hbl hO ⊢
   obtain rfl:b2=b0':=by simpa using eb'
   obtain rfl:t'=t:=by omega
   subst ek
   refine⟨fun hlt2 => ?_,fun hge2 => ?_⟩
   · have hkw:k<rows.length:=by simp at hlt2; omega
     have ekr:=getD_get hkw []
     obtain⟨g1,s,q1,q2⟩:=(RowsV.le qC.le (View.le_trans l2 l3) h).row (t:=(k:Int)) (by omega) (row:=rows.getD k []) (by rw[Int.toNat_natCast]; exact ekr)
     rw[hl]at g1
     have htr:t'<(rows.getD k []).length:=by rw[gcols_get hr ekr]; exact hk
     obtain⟨d1,_,⟨y,rfl,hy⟩,_,hh,hs⟩:=ListAt.get q2 (t:=(t':Int)) (by omega) (z:=A t' k) (by rw[Int.toNat_natCast]; exact getD_get htr Cq.zero)
     refine⟨⟨by omega,by omega,rfl⟩,⟨some ⟨bs' t',0,none⟩,rows.length,rows.length⟩,.inl ?_,g1,s,.inr q1,d1,y,.inr hh,hs,⟨by omega,by show(k:Int)<(rows.length:Nat); omega,rfl⟩,bs' t',k*5,l,?_,hbl,?_,?_⟩
     · have:=load_cellR (i:=t') hT'.top hrow
       rw[Int.toNat_natCast]
       by_cases e:t'=0<;>simpa [Addr.add,e,Sl.v]using this
     · rw[Int.toNat_natCast]
       by_cases e:k=0<;>simp[Addr.add,e]<;>omega
     · have:=hO.room hkw; omega
     · rw[i64w (by omega) (by omega)]
       refine⟨⟨b2,t',k+1,ol',_,bs',rfl,rfl,hk,by omega,by omega,⟨?_,hT'.len,fun i hi => ?_⟩,hrow,hne,hinj,by simp only[View.upd,if_true]; rfl,?_⟩,by omega⟩
       · simp only[View.upd]; rw[if_neg (Ne.symm hne)]; exact hT'.top
       · obtain⟨q1',q2',l',q3',q4'⟩:=hT'.row i hi
         exact⟨q1',q2',l',by simp only[View.upd]; rw[if_neg (hinj i hi)]; exact q3',q4'⟩
       · have:=hO.next hkw (y:=y.val.cells.toList) rfl ⟨y,rfl,hy⟩
         rw[Nat.zero_add]at this
         exact this
   · have e:k=rows.length:=by simp at hge2; omega
     subst e
     rw[i64w (by omega) (by omega)]
     refine⟨⟨b2,t'+1,ol',bs',rfl,by omega,by omega,⟨hT'.top,hT'.len,fun i hi => ?_⟩⟩,by omega⟩
     by_cases e:i=t'
     · subst e
       exact⟨hrow,hne,l,hbl,hO.all fun p hp=>seqF_all hp⟩
     · exact hT'.row i (by omega)
 · have e:t=gcols rows:=by simp at hge; omega
   subst e
   exact⟨by decide,fun V4 l4 hm4=>⟨_,rfl,hT.known l4 hm4⟩⟩
theorem ofGrid_spec {V:View} {g:GridV} {w v:Sl} {rows:List (List Cq)} {ws vs:List Cq} (back:Bool) (S T:Nat) (h:RowsV 5 qC V g.rows rows) (hr:Rect rows) (hq:QsAt V w ws) (hv:QsAt V v vs)
 (hS:okRows S rows) (hT:okSz T ws) (hT2:okSz T vs) (s1:1≤S) (t1:1≤T) (hsz:64*(64*(S+T+2)+9+T+2)≤2^39) :
 CallV Tryz.prog n_waveportref07_ofGrid #[g.val,w.v,v.v,.bool back] V fun u V'=>∃r:GridV,u = .tuple #[r.val,.int .i64 (bothE rows ws vs)]∧RowsV 5 qC V' r.rows (bothR back rows ws vs):=by
 have hwl:=hq.len
 have hvl:=hv.len
 have hgl:g.rows.len=rows.length:=h.len
 have bad:∀V':View,bothOk rows ws vs=false→∃r:GridV,Value.tuple #[(GridV.mk (Sl.mk none 0 0)).val,.int .i64 4] = .tuple #[r.val,.int .i64 (bothE rows ws vs)]∧RowsV 5 qC V' r.rows (bothR back rows ws vs):=fun V' e=>by
  refine⟨⟨⟨none,0,0⟩⟩,?_,?_⟩
  · unfold bothE; rw[e]; rfl
  · unfold bothR; rw[e]; exact ListAt.nil
 let step:Nat→List (List Cq):=fun t=>if t=0 then rows else if t=1 then turnG Cq.zero (rows.map fun row=>tranL back row ws)else bothF back rows ws vs
 let fac:Nat→List Cq:=fun t=>if t=1 then vs else ws
 refine waveportref07_ofGrid_vc g w v back V _ (fun _ _ _=>bothOk rows ws vs=true)
  (fun _ x V'=>∃t:Nat,bothOk rows ws vs=true∧x.t11=t∧t≤2∧RowsV 5 qC V' x.o10.rows (step t)) (fun _ x _=>2-x.t11.toNat)
  (fun c x V'=>∃t:Nat,c.t11=t∧t<2∧RowsV 5 qC V' c.o10_0 (step t)∧QsAt V' x.t12 (fac t))
  (fun c x V'=>∃(t k:Nat),c.t11=t∧t<2∧x.t14=k∧k≤(step t).length∧RowsV 5 qC V' x.o10.rows (step t)∧QsAt V' c.t12 (fac t)∧x.o56.length=(step t).length ∧
    ∀i,i<k→∃s:Sl,x.o56[i]?=some s.v∧QsAt V' s (tranL back ((step t).getD i []) (fac t))) (fun c x _=>x.o10.rows.len-x.t14.toNat) ?_
 have stepOk:bothOk rows ws vs=true→∀t,t<2→∃a b,a≤6∧b≤6∧Mid (step t) a b∧(fac t).length=2^b∧okRows (64*(S+T+2)+9) (step t)∧okSz T (fac t)∧turnG Cq.zero ((step t).map fun row=>tranL back row (fac t))=step (t+1):=fun ok t ht=>by
  obtain⟨n,m,hn,hm,ew,ev,M⟩:=bothOk_mid ok hr
  have ht2:t=0∨t=1:=by omega
  rcases ht2 with rfl|rfl
  · exact⟨n,m,hn,hm,M,ew,fun row hr z hz=>Nat.le_trans (hS row hr z hz) (by omega),hT,rfl⟩
  · exact⟨m,n,hm,hn,(M.map back ew).turn,ev,turnG_sz (map_sz M hm back ew hS hT s1 t1) (by omega),hT2,rfl⟩
 have b1:lenB ws.length=false→bothOk rows ws vs=false:=fun e=>by unfold bothOk; rw[e]; rfl
 have b2:lenB vs.length=false→bothOk rows ws vs=false:=fun e=>by unfold bothOk; rw[e]; simp
 have b3:gcols rows≠ws.length→bothOk rows ws vs=false:=fun e=>by unfold bothOk; simp[e]
 have b4:rows.length≠vs.length→bothOk rows ws vs=false:=fun e=>by unfold bothOk; simp[e]
 rw[hwl,hvl,hgl]
 refine⟨(Length_spec _).mono fun u V2 l2 hu=>⟨_,hu,fun c=>bad V2 (b1 (by simpa using c)),fun c=>(Length_spec _).mono fun u V3 l3 hu=>⟨_,hu,fun c2=>bad V3 (b2 (by simpa using c2)),fun c2=>⟨fun c4=>bad V3 (b4 fun e => ?_),fun c4 => ?_⟩⟩⟩,?_⟩
 · rw[e]at c4; simp at c4
 · have c:lenB ws.length=true:=by simpa using c
   have c2:lenB vs.length=true:=by simpa using c2
   have c4:rows.length=vs.length:=by simp at c4; omega
   obtain⟨k,_,ek⟩:=lenB_pow2 c2
   have hpos:0<rows.length:=by rw[c4,ek]; exact Nat.pow_pos (by omega)
   obtain⟨row0,e0,e1⟩:=head_get hpos
   obtain⟨g0,s0,h3,h4⟩:=(RowsV.le qC.le (View.le_trans l2 l3) h).row (t:=(0:Int)) (by omega) (row:=row0) e0
   have hs0:s0.len=gcols rows:=by rw[←e1]; exact h4.len
   rw[hgl]at g0
   refine⟨g0,s0,h3,fun c3=>bad V3 (b3 fun e => ?_),fun c3 => ?_⟩
   · rw[hs0,e]at c3; simp at c3
   · have c3:gcols rows=ws.length:=by rw[hs0]at c3; simp at c3; omega
     unfold bothOk
     rw[c,c2,decide_eq_true c3,decide_eq_true c4]; rfl
 rintro⟨o8⟩ V1 l1 ok
 refine⟨⟨0,ok,rfl,by omega,RowsV.le qC.le l1 h⟩,?_⟩
 rintro⟨t11,o8',o10⟩ V4 l4 ⟨t,_,et,ht,hR⟩
 dsimp only at et hR ⊢
 subst et
 have L4:=View.le_trans l1 l4
 refine⟨fun hlt => ?_,fun hge => ?_⟩
 · have ht2:t<2:=by simp at hlt; omega
   obtain⟨a,b,ha,hb,M,ef,zS,zT,hstep⟩:=stepOk ok t ht2
   have p6:2^a≤2^6:=Nat.pow_le_pow_right (by omega) ha
   have q6:2^b≤2^6:=Nat.pow_le_pow_right (by omega) hb
   refine⟨⟨fun c=>⟨t,rfl,ht2,hR,?_⟩,fun c=>⟨t,rfl,ht2,hR,?_⟩⟩,?_⟩
   · have e:t=1:=by simp at c; omega
     subst e; exact QsAt.le L4 hv
   · have e:t≠1:=by simp at c; omega
     show QsAt V4 w (if t=1 then vs else ws)
     rw[if_neg e]; exact QsAt.le L4 hq
   rintro⟨t12⟩ V5 l5 ⟨t',et,_,hR5,hF⟩
   dsimp only at et hR5 hF ⊢
   obtain rfl:t'=t:=by omega
   have hol:o10.rows.len=(step t').length:=hR5.len
   rw[hol,Int.toNat_natCast]
   have hlen:(step t').length≤64:=by rw[M.len]; omega
   refine⟨⟨by omega,by omega,by omega,by omega⟩,⟨t',0,rfl,ht2,rfl,by omega,hR5,hF,by simp,fun i hi=>absurd hi (by omega)⟩,?_⟩
   rintro⟨t14,o10',o56⟩ V6 l6 ⟨t2,k,et,_,ek,hk,hR6,hF6,hol6,hrows⟩
   dsimp only at et ek hR6 hF6 hol6 hrows ⊢
   obtain rfl:t2=t':=by omega
   subst ek
   have hol2:o10'.rows.len=(step t2).length:=hR6.len
   rw[hol2]
   refine⟨fun hlt2 => ?_,fun hge2 => ?_⟩
   · have hkn:k<(step t2).length:=by simp at hlt2; omega
     have ek:=getD_get hkn []
     have hmem:=List.mem_of_getElem? ek
     obtain⟨g1,s,q1,q2⟩:=hR6.row (t:=(k:Int)) (by omega) (row:=(step t2).getD k []) (by rw[Int.toNat_natCast]; exact ek)
     rw[hol2]at g1
     have hrl:=M.row _ hmem
     have hz:=zS _ hmem
     have h3:=Nat.mul_le_mul_right (64*(S+T+2)+9+T+2) q6
     refine⟨g1,s,q1,(refStages_spec b (64*(S+T+2)+9) T hb hrl ef q2 hF6 (fun i _=>hz.at (by omega) i) (fun i _=>zT.at t1 i) (by omega)).mono fun u V7 l7 ⟨r3,hu,h3'⟩=>⟨r3,hu,⟨by omega,by omega⟩,by rw[hol6,Int.toNat_natCast]; omega,?_⟩⟩
     have e1:0+Int.toNat (k:Int)*1=k:=by omega
     have next:∀ {V':View} {o:List Value} {r:Sl},View.le V6 V'→o.length=o56.length→(∀i,i≠k→o[i]?=o56[i]?)→o[k]?=some r.v→QsAt V' r (tranL back ((step t2).getD k []) (fac t2)) →
      ((∃(t k_1:Nat),(t2:Int)=t∧t<2∧(IntKind.i64.wrap ((k:Int)+1))=k_1∧k_1≤(step t).length∧RowsV 5 qC V' o10'.rows (step t)∧QsAt V' t12 (fac t)∧o.length=(step t).length ∧
        ∀i,i<k_1→∃s:Sl,o[i]?=some s.v∧QsAt V' s (tranL back ((step t).getD i []) (fac t)))∧(step t2).length-(IntKind.i64.wrap ((k:Int)+1)).toNat<(step t2).length-(k:Int).toNat):=fun {V' o r} hle h1 h2 h3 h4=>by
      rw[i64w (by omega) (by omega)]
      refine⟨⟨t2,k+1,rfl,ht2,by omega,by omega,RowsV.le qC.le hle hR6,QsAt.le hle hF6,by rw[h1]; exact hol6,fun i hi => ?_⟩,by omega⟩
      by_cases e:i=k
      · subst e; exact⟨r,h3,h4⟩
      · obtain⟨s,j1,j2⟩:=hrows i (by omega)
        exact⟨s,by rw[h2 i e]; exact j1,QsAt.le hle j2⟩
     have hk56:k<o56.length:=by rw[hol6]; exact hkn
     rw[e1]
     refine⟨fun hb' => ?_,fun hb' => ?_⟩
     · subst hb'
       refine⟨g1,s,View.load_le l7 q1,(refConjugates_spec (hF6.le l7) (by rw[ef]; omega)).mono fun u V8 l8 ⟨r4,hu,h8⟩=>⟨r4,hu,?_⟩⟩
       have L8:=View.le_trans l7 l8
       have hcs:=conjF_sz (fac t2) T (fun i _=>zT.at t1 i)
       rw[ef]at hcs
       refine(refStages_spec b (64*(S+T+2)+9) T hb hrl (by rw[conjF_length,ef]) (QsAt.le L8 q2) h8 (fun i _=>hz.at (by omega) i) hcs (by omega)).mono fun u V9 l9 ⟨r5,hu,h9⟩=>⟨r5,hu,?_⟩
       have hsl:=stageF_length b ((step t2).getD k []) (conjF (fac t2))
       have hsz2:=stageF_sz b ((step t2).getD k []) (conjF (fac t2)) (64*(S+T+2)+9) T hrl (by rw[conjF_length,ef]) (fun i _=>hz.at (by omega) i) hcs
       have hp1:0<2^b:=Nat.pow_pos (by omega)
       refine(refDivided_spec h9 (by rw[hsl]; omega) (by rw[hsl]; omega) (fun i hi=>by rw[hsl]at hi; have:=hsz2 i hi; omega)).mono fun u V10 l10 ⟨r6,hu,h10⟩=>⟨r6,hu,⟨by omega,by omega⟩,by rw[List.length_set,hol6]; omega,?_⟩
       refine next (View.le_trans L8 (View.le_trans l9 l10)) (by rw[List.length_set,List.length_set]) (fun i hi => ?_) ?_ ?_ (r:=r6)
       · rw[List.getElem?_set,if_neg (fun e=>hi e.symm),List.getElem?_set,if_neg (fun e=>hi e.symm)]
       · rw[List.getElem?_set,if_pos rfl,if_pos (by rw[List.length_set]; exact hk56)]
       · show QsAt V10 r6 (tranL true _ _)
         unfold tranL backL; rw[if_pos rfl,ef,log2_pow]; exact h10
     · subst hb'
       refine next l7 (by rw[List.length_set]) (fun i hi => ?_) ?_ ?_ (r:=r3)
       · rw[List.getElem?_set,if_neg (fun e=>hi e.symm)]
       · rw[List.getElem?_set,if_pos rfl,if_pos hk56]
       · show QsAt V7 r3 (tranL false _ _)
         unfold tranL fastL; rw[if_neg (by decide),ef,log2_pow]; exact h3'
   · have e:k=(step t2).length:=by simp at hge2; omega
     subst e
     intro b1' V11 l11 hb1
     have hC:Cells 1 (fun V x row=>∃s:Sl,x=[s.v]∧ListAt 5 qC V s row) V11 o56 ((step t2).map fun row=>tranL back row (fac t2)):=by
      refine Cells.ofFn (by rw[hol6,List.length_map]) fun i x row hx hrow => ?_
      have hi:i<(step t2).length:=by
       rcases Nat.lt_or_ge i (step t2).length with g|g
       · exact g
       · rw[List.getElem?_eq_none (by rw[hol6]; exact g)]at hx; simp at hx
      rw[List.getElem?_map,getD_get hi []]at hrow
      obtain rfl:=Option.some.inj hrow
      obtain⟨s,j1,j2⟩:=hrows i hi
      rw[j1]at hx
      obtain rfl:=Option.some.inj hx
      exact⟨s,rfl,QsAt.le l11 j2⟩
     have hrv:RowsV 5 qC V11 ⟨some ⟨b1',0,none⟩,(step t2).length,(step t2).length⟩ ((step t2).map fun row=>tranL back row (fac t2)):=ListAt.of_made hb1 hC (by rw[List.length_map])
     have M2:=M.map back ef
     refine(r7_Turned_spec (g:=⟨⟨some ⟨b1',0,none⟩,(step t2).length,(step t2).length⟩⟩) hrv M2.rect (by rw[M2.len]; omega) (by rw[M2.cols]; omega)).mono fun u V12 l12 ⟨r7,hu,h7⟩=>⟨r7,hu,?_⟩
     rw[i64w (by omega) (by omega)]
     exact⟨⟨t2+1,ok,by omega,by omega,by rw[←hstep]; exact h7⟩,by omega⟩
 · have e:t=2:=by simp at hge; omega
   subst e
   refine⟨o10,by unfold bothE; rw[ok]; rfl,?_⟩
   unfold bothR; rw[if_pos ok]; exact hR
theorem r7_ForwardGrid_spec {V:View} {g:GridV} {w v:Sl} {rows:List (List Cq)} {ws vs:List Cq} (S T:Nat) (h:RowsV 5 qC V g.rows rows) (hr:Rect rows) (hq:QsAt V w ws) (hv:QsAt V v vs)
 (hS:okRows S rows) (hT:okSz T ws) (hT2:okSz T vs) (s1:1≤S) (t1:1≤T) (hsz:64*(64*(S+T+2)+9+T+2)≤2^39) :
 CallV Tryz.prog n_waveportref07_ForwardGrid #[g.val,w.v,v.v] V fun u V'=>∃r:GridV,u = .tuple #[r.val,.int .i64 (bothE rows ws vs)]∧RowsV 5 qC V' r.rows (bothR false rows ws vs) :=
 waveportref07_ForwardGrid_vc g w v V _ ((ofGrid_spec false S T h hr hq hv hS hT hT2 s1 t1 hsz).mono fun u V1 _ ⟨r,hu,h1⟩=>⟨r,_,hu,r,rfl,h1⟩)
theorem r7_BackGrid_spec {V:View} {g:GridV} {w v:Sl} {rows:List (List Cq)} {ws vs:List Cq} (S T:Nat) (h:RowsV 5 qC V g.rows rows) (hr:Rect rows) (hq:QsAt V w ws) (hv:QsAt V v vs)
 (hS:okRows S rows) (hT:okSz T ws) (hT2:okSz T vs) (s1:1≤S) (t1:1≤T) (hsz:64*(64*(S+T+2)+9+T+2)≤2^39) :
 CallV Tryz.prog n_waveportref07_BackGrid #[g.val,w.v,v.v] V fun u V'=>∃r:GridV,u = .tuple #[r.val,.int .i64 (bothE rows ws vs)]∧RowsV 5 qC V' r.rows (bothR true rows ws vs) :=
 waveportref07_BackGrid_vc g w v V _ ((ofGrid_spec true S T h hr hq hv hS hT hT2 s1 t1 hsz).mono fun u V1 _ ⟨r,hu,h1⟩=>⟨r,_,hu,r,rfl,h1⟩)
theorem At_num_Num_spec {V:View} {g:GridV} {rows:List (List Cq)} {i j:Int} (h:RowsV 5 numC V g.rows rows) (hr:Rect rows) (d:Cq) :
 CallV Tryz.prog n__transform_Grid_num_Num___At #[g.val,.int .i64 i,.int .i64 j] V fun v V'=>∃(r:NumV) (e:Int),v = .tuple #[r.val,.int .i64 e] ∧
  ((0≤i∧i<rows.length)∧(0≤j∧j<gcols rows)→e=0∧numC V' r.val.cells.toList ((rows.getD i.toNat []).getD j.toNat d)) ∧
  (¬((0≤i∧i<rows.length)∧(0≤j∧j<gcols rows))→e=1):=by
 refine m_transform_Grid_num_Num___At_vc g i j V _ ((Size_num_Num_spec h).mono fun v V1 l1 hv=>⟨_,_,hv,fun c => ?_,fun c=>⟨fun c2 => ?_,fun c2=>⟨fun c3 => ?_,fun c3=>⟨fun c4 => ?_,fun c4 => ?_⟩⟩⟩⟩)
 · have c:=of_decide_eq_true c
   exact⟨_,_,rfl,fun k=>absurd k.1.1 (by omega),fun _=>rfl⟩
 · have c2:=of_decide_eq_true c2
   exact⟨_,_,rfl,fun k=>absurd k.1.2 (by omega),fun _=>rfl⟩
 · have c3:=of_decide_eq_true c3
   exact⟨_,_,rfl,fun k=>absurd k.2.1 (by omega),fun _=>rfl⟩
 · have c4:=of_decide_eq_true c4
   exact⟨_,_,rfl,fun k=>absurd k.2.2 (by omega),fun _=>rfl⟩
 · have c:=of_decide_eq_false c
   have c2:=of_decide_eq_false c2
   have c3:=of_decide_eq_false c3
   have c4:=of_decide_eq_false c4
   have hi:i.toNat<rows.length:=by omega
   have ek:rows[i.toNat]?=some (rows.getD i.toNat []):=by simp[List.getD,hi]
   obtain⟨g1,s,h1,h2⟩:=(RowsV.le numC.le l1 h).row (t:=i) (by omega) ek
   have hrl:=gcols_get hr ek
   have hj:j.toNat<(rows.getD i.toNat []).length:=by omega
   obtain⟨g2,x,hx,_,hh,hs⟩:=ListAt.get h2 (t:=j) (by omega) (z:=(rows.getD i.toNat []).getD j.toNat d) (getD_get hj d)
   obtain⟨y,ey⟩:∃y:NumV,x=y.val.cells.toList:=by obtain⟨y,e,_⟩:=hx; exact⟨_,e⟩
   subst ey
   exact⟨g1,s,h1,g2,y,hh,hs,_,_,rfl,fun _=>⟨rfl,hx⟩,fun k=>absurd ⟨⟨by omega,by omega⟩,by omega,by omega⟩ k⟩
theorem law1_Rows_spec {V:View} {p:Sl} {rows:List (List RatV)} (h:RowsV 3 ratC V p rows) (hn:rows.length≤2^32) (hi:∀row∈rows,row.length≤2^32∧∀r∈row,ratI r) :
 CallV Tryz.prog n_law1_Rows #[p.v] V fun v V'=>∃r:Sl,v=r.v∧RowsV 5 numC V' r (rows.map fun row=>row.map ratQ):=by
 have hl:p.len=rows.length:=h.len
 let f:Nat→Nat→List Cq:=fun t i=>if i<t then(rows.getD i []).map ratQ else []
 refine law1_Rows_vc p V _ (fun _ x V'=>∃t:Nat,x.t11=t∧t≤rows.length∧Cells 1 (fun V x row=>∃s:Sl,x=[s.v]∧ListAt 5 numC V s row) V' x.o8 (rowL rows.length (f t))) (fun _ x _=>rows.length-x.t11.toNat) ?_
 rw[hl]
 refine⟨⟨by omega,by omega,by omega,by omega⟩,⟨0,rfl,by omega,?_⟩,?_⟩
 · have e:rowL rows.length (f 0)=List.replicate rows.length ([]:List Cq):=by
     rw[←rowL_const]; exact rowL_congr fun k _=>by show(if k<0 then _ else _)=_; rw[if_neg (by omega)]
   rw[e,Int.toNat_natCast]
   exact Cells.replicate (x:=[Value.slice none 0 0]) rfl ⟨⟨none,0,0⟩,rfl,ListAt.nil⟩ _
 rintro⟨t11,o8⟩ V1 l1 ⟨t,ht,htn,hC⟩
 dsimp only at ht hC ⊢
 subst ht
 have hol:o8.length=rows.length:=by rw[hC.length,rowL_length]; omega
 refine⟨fun hlt => ?_,fun hge => ?_⟩
 · have hk:t<rows.length:=by simp at hlt; omega
   obtain⟨g1,s,g2,g3⟩:=RowsV.row (RowsV.le (P:=ratC) (fun _ _ _ h=>h) l1 h) (t:=(t:Int)) (by omega) (row:=rows[t]) (by simp)
   rw[hl]at g1
   have hr:=hi rows[t] (List.getElem_mem hk)
   refine⟨g1,s,g2,(law1_List_spec g3 hr.2 hr.1).mono fun v V2 l2 ⟨r,hv,h2⟩=>⟨r,hv,⟨by omega,by omega⟩,by rw[hol,Int.toNat_natCast]; omega,?_⟩⟩
   rw[i64w (by omega) (by omega)]
   refine⟨⟨t+1,by omega,by omega,?_⟩,by omega⟩
   have hC2:=Cells.imp (P':=fun V x row=>∃s:Sl,x=[s.v]∧ListAt 5 numC V s row) (V':=V2) (fun x row ⟨s,e,hs⟩=>⟨s,e,NumsAt.le l2 hs⟩) hC
   have:=hC2.set0 (i:=t) (by rw[rowL_length]; exact hk) (y:=[r.v]) rfl (z:=rows[t].map ratQ) ⟨r,rfl,h2⟩
   rw[rowL_set]at this
   have e:setL o8 (0+t*1) [r.v]=o8.set (0+Int.toNat (t:Int)*1) r.v:=by rw[Int.toNat_natCast]; simp[setL]
   rw[e]at this
   rw[rowL_congr (g:=f (t+1)) (fun k hk2 => ?_)]at this
   · exact this
   · show(if k=t then rows[t].map ratQ else if k<t then _ else _)=if k<t+1 then _ else _
     by_cases e1:k=t
     · subst e1; rw[if_pos rfl,if_pos (by omega)]; simp[List.getD,hk]
     · rw[if_neg e1]
       by_cases e2:k<t
       · rw[if_pos e2,if_pos (by omega)]
       · rw[if_neg e2,if_neg (by omega)]
 · have e:t=rows.length:=by simp at hge; omega
   subst e
   intro b1 V3 l3 hb
   have e2:rowL rows.length (f rows.length)=rows.map fun row=>row.map ratQ:=by
    apply List.ext_getElem (by simp[rowL])
    intro i h1 h2
    have hi:i<rows.length:=by simpa [rowL]using h1
    simp[rowL,f,hi,List.getD]
   rw[e2]at hC
   refine⟨⟨some (Addr.mk b1 0 none),_,_⟩,rfl,?_⟩
   rw[Int.toNat_natCast]
   exact ListAt.of_made hb (Cells.imp (P':=fun V x row=>∃s:Sl,x=[s.v]∧ListAt 5 numC V s row) (V':=V3) (fun x row ⟨s,e,hs⟩=>⟨s,e,NumsAt.le l3 hs⟩) hC) (by simp)
theorem num_inj {a b:NumV} (h:a.val.cells.toList=b.val.cells.toList):a=b:=by
 obtain⟨⟨n1,⟨a1,l1,c1⟩⟩,⟨n2,⟨a2,l2,c2⟩⟩,⟨a3,l3,c3⟩⟩:=a
 obtain⟨⟨m1,⟨b1,k1,d1⟩⟩,⟨m2,⟨b2,k2,d2⟩⟩,⟨b3,k3,d3⟩⟩:=b
 rw[num_cells,num_cells]at h
 simp[Sl.v]at h
 obtain⟨rfl,⟨rfl,rfl,rfl⟩,rfl,⟨rfl,rfl,rfl⟩,rfl,rfl,rfl⟩:=h
 rfl
theorem refRows_spec {V:View} {p:Sl} {rows:List (List RatV)} (h:RowsV 3 ratC V p rows) (hn:rows.length≤2^32) (hi:∀row∈rows,row.length≤2^32∧∀r∈row,ratI r) :
 CallV Tryz.prog n_waveportlaw07_refRows #[p.v] V fun v V'=>∃r:Sl,v=r.v∧RowsV 5 qC V' r (rows.map fun row=>row.map ratQ):=by
 have hl:p.len=rows.length:=h.len
 let f:Nat→Nat→List Cq:=fun t i=>if i<t then(rows.getD i []).map ratQ else []
 refine waveportlaw07_refRows_vc p V _ (fun _ x V'=>∃t:Nat,x.t11=t∧t≤rows.length∧Cells 1 (fun V x row=>∃s:Sl,x=[s.v]∧ListAt 5 qC V s row) V' x.o8 (rowL rows.length (f t))) (fun _ x _=>rows.length-x.t11.toNat) ?_
 rw[hl]
 refine⟨⟨by omega,by omega,by omega,by omega⟩,⟨0,rfl,by omega,?_⟩,?_⟩
 · have e:rowL rows.length (f 0)=List.replicate rows.length ([]:List Cq):=by
     rw[←rowL_const]; exact rowL_congr fun k _=>by show(if k<0 then _ else _)=_; rw[if_neg (by omega)]
   rw[e,Int.toNat_natCast]
   exact Cells.replicate (x:=[Value.slice none 0 0]) rfl ⟨⟨none,0,0⟩,rfl,ListAt.nil⟩ _
 rintro⟨t11,o8⟩ V1 l1 ⟨t,ht,htn,hC⟩
 dsimp only at ht hC ⊢
 subst ht
 have hol:o8.length=rows.length:=by rw[hC.length,rowL_length]; omega
 refine⟨fun hlt => ?_,fun hge => ?_⟩
 · have hk:t<rows.length:=by simp at hlt; omega
   obtain⟨g1,s,g2,g3⟩:=RowsV.row (RowsV.le (P:=ratC) (fun _ _ _ h=>h) l1 h) (t:=(t:Int)) (by omega) (row:=rows[t]) (by simp)
   rw[hl]at g1
   have hr:=hi rows[t] (List.getElem_mem hk)
   refine⟨g1,s,g2,(refList_spec g3 hr.2 hr.1).mono fun v V2 l2 ⟨r,hv,h2⟩=>⟨r,hv,⟨by omega,by omega⟩,by rw[hol,Int.toNat_natCast]; omega,?_⟩⟩
   rw[i64w (by omega) (by omega)]
   refine⟨⟨t+1,by omega,by omega,?_⟩,by omega⟩
   have hC2:=Cells.imp (P':=fun V x row=>∃s:Sl,x=[s.v]∧ListAt 5 qC V s row) (V':=V2) (fun x row ⟨s,e,hs⟩=>⟨s,e,QsAt.le l2 hs⟩) hC
   have:=hC2.set0 (i:=t) (by rw[rowL_length]; exact hk) (y:=[r.v]) rfl (z:=rows[t].map ratQ) ⟨r,rfl,h2⟩
   rw[rowL_set]at this
   have e:setL o8 (0+t*1) [r.v]=o8.set (0+Int.toNat (t:Int)*1) r.v:=by rw[Int.toNat_natCast]; simp[setL]
   rw[e]at this
   rw[rowL_congr (g:=f (t+1)) (fun k hk2 => ?_)]at this
   · exact this
   · show(if k=t then rows[t].map ratQ else if k<t then _ else _)=if k<t+1 then _ else _
     by_cases e1:k=t
     · subst e1; rw[if_pos rfl,if_pos (by omega)]; simp[List.getD,hk]
     · rw[if_neg e1]
       by_cases e2:k<t
       · rw[if_pos e2,if_pos (by omega)]
       · rw[if_neg e2,if_neg (by omega)]
 · have e:t=rows.length:=by simp at hge; omega
   subst e
   intro b1 V3 l3 hb
   have e2:rowL rows.length (f rows.length)=rows.map fun row=>row.map ratQ:=by
    apply List.ext_getElem (by simp[rowL])
    intro i h1 h2
    have hi:i<rows.length:=by simpa [rowL]using h1
    simp[rowL,f,hi,List.getD]
   rw[e2]at hC
   refine⟨⟨some (Addr.mk b1 0 none),_,_⟩,rfl,?_⟩
   rw[Int.toNat_natCast]
   exact ListAt.of_made hb (Cells.imp (P':=fun V x row=>∃s:Sl,x=[s.v]∧ListAt 5 qC V s row) (V':=V3) (fun x row ⟨s,e,hs⟩=>⟨s,e,QsAt.le l3 hs⟩) hC) (by simp)
set_option maxHeartbeats 1000000 in
theorem l7_is_spec {V:View} {g q:GridV} {rows:List (List Cq)} (h:RowsV 5 numC V g.rows rows) (hq:RowsV 5 qC V q.rows rows) (hr:Rect rows) (hn:rows.length≤2^30) (hb:∀row,row∈rows→row.length≤2^30) (hz:okRows (2^40) rows) :
 CallV Tryz.prog n_waveportlaw07_is #[g.val,q.val] V fun v _=>v = .bool true:=by
 have hql:q.rows.len=rows.length:=hq.len
 refine waveportlaw07_is_vc g q V _ (fun _ _ _=>True) (fun _ x _=>∃t:Nat,x.t49=t∧t≤rows.length) (fun _ x _=>rows.length-x.t49.toNat)
  (fun c _ V'=>∃t:Nat,c.t49=t∧c.t7=t∧t<rows.length∧QsAt V' c.t8 (rows.getD t [])) (fun c x V'=>∃t k:Nat,c.t49=t∧c.t7=t∧t<rows.length∧x.t70=k∧k≤(rows.getD t []).length∧QsAt V' c.t68 (rows.getD t [])) (fun c x _=>c.t68.len-x.t70.toNat) ?_
 rw[hql]
 refine(Size_num_Num_spec h).mono fun v V1 l1 hv=>⟨_,_,hv,⟨fun c=>absurd c (by simp),fun _=>⟨fun c => ?_,fun c => ?_⟩⟩,?_⟩
 · have c:=of_decide_eq_true c
   obtain⟨row0,e0,e1⟩:=head_get (rows:=rows) (by omega)
   obtain⟨g0,s0,h3,h4⟩:=(RowsV.le qC.le l1 hq).row (t:=(0:Int)) (by omega) (row:=row0) e0
   have hs0:s0.len=gcols rows:=by rw[←e1]; exact h4.len
   rw[hql]at g0
   refine⟨g0,s0,h3,fun c2 => ?_,fun _=>⟨fun c3 => ?_,fun _=>trivial⟩⟩
   · rw[hs0]at c2; simp at c2
   · have:(rows.length:Int)=0:=by simpa only[beq_iff_eq]using c3
     omega
 · have c:=of_decide_eq_false c
   have e:rows=[]:=List.length_eq_zero_iff.1 (by omega)
   subst e
   exact⟨fun _=>⟨fun c2=>absurd c2 (by decide),fun _=>trivial⟩,fun _=>trivial⟩
 rintro⟨u⟩ V2 l2 _
 refine⟨⟨0,rfl,by omega⟩,?_⟩
 rintro⟨t49⟩ V3 l3 ⟨t,et,ht⟩
 dsimp only at et ⊢
 subst et
 have L3:=View.le_trans l1 (View.le_trans l2 l3)
 refine⟨fun hlt => ?_,fun _=>rfl⟩
 have hk:t<rows.length:=by simp at hlt; omega
 have ek:=getD_get hk []
 have hmem:=List.mem_of_getElem? ek
 obtain⟨g1,s,h1,h2⟩:=(RowsV.le qC.le L3 hq).row (t:=(t:Int)) (by omega) (row:=rows.getD t []) (by rw[Int.toNat_natCast]; exact ek)
 rw[hql]at g1
 have hz1:=hz _ hmem
 refine⟨g1,s,h1,(RowV_num_Num (i:=(t:Int)) (RowsV.le numC.le L3 h) hb).mono fun v V4 l4 ⟨r,e,hv,k1,_⟩=>⟨r,e,hv,⟨fun c => ?_,fun _ => ?_⟩,?_⟩⟩
 · rw[(k1 ⟨by omega,by omega⟩).1]at c; exact absurd c (by decide)
 · obtain⟨_,hN⟩:=k1 ⟨by omega,by omega⟩
   rw[Int.toNat_natCast]at hN
   exact(law1_AreAll_spec hN (QsAt.le l4 h2) (Nat.le_trans (hb _ hmem) (by omega)) (fun i _=>hz1.at (by omega) i)).mono fun v V6 l6 hv=>⟨_,hv,fun c=>absurd c (by decide),fun _=>⟨t,rfl,rfl,hk,QsAt.le (View.le_trans l4 l6) h2⟩⟩
 rintro⟨u2⟩ V5 l5 ⟨t',et,_,_,h5⟩
 try dsimp only at et h5 ⊢
 obtain rfl:t'=t:=by omega
 have hsl:s.len=(rows.getD t' []).length:=h2.len
 refine⟨⟨t',0,rfl,rfl,hk,rfl,by omega,h5⟩,?_⟩
 rintro⟨t70⟩ V7 l7 ⟨t2,k,et,_,_,ek2,hkk,h7⟩
 dsimp only at et ek2 h7 ⊢
 obtain rfl:t2=t':=by omega
 subst ek2
 rw[hsl]
 refine⟨fun hlt2 => ?_,fun _ => ?_⟩
 · have hkl:k<(rows.getD t2 []).length:=by have:=of_decide_eq_true hlt2; omega
   have hb30:=hb _ hmem
   obtain⟨d1,_,⟨y,rfl,hy⟩,_,hh,hs⟩:=ListAt.get h7 (t:=(k:Int)) (by omega) (z:=atG Cq.zero rows t2 k) (by rw[Int.toNat_natCast]; exact getD_get hkl Cq.zero)
   have hcl:=gcols_get hr ek
   rw[hsl]at d1
   refine⟨d1,y,hh,hs,(At_num_Num_spec (i:=(t2:Int)) (j:=(k:Int)) (RowsV.le numC.le (View.le_trans L3 (View.le_trans l4 (View.le_trans l5 l7))) h) hr Cq.zero).mono fun v V8 l8 ⟨r6,e6,hv,j1,_⟩=>⟨r6,e6,hv,fun c => ?_,fun _ => ?_⟩⟩
   · rw[(j1 ⟨⟨by omega,by omega⟩,by omega,by omega⟩).1]at c; exact absurd c (by decide)
   · obtain⟨_,y6,e6',hy6⟩:=j1 ⟨⟨by omega,by omega⟩,by omega,by omega⟩
     have:r6=y6:=num_inj e6'
     subst this
     rw[Int.toNat_natCast,Int.toNat_natCast]at hy6
     rw[i64w (by omega) (by omega)]
     refine(law1_Is_spec hy6 (hy.le l8) (hz1 _ (List.mem_of_getElem? (getD_get hkl Cq.zero)))).mono fun v V9 l9 hv=>⟨_,hv,fun c=>absurd c (by decide),fun _=>⟨⟨t2,k+1,rfl,rfl,hk,by omega,by omega,QsAt.le (View.le_trans l8 l9) h7⟩,by omega⟩⟩
 · rw[i64w (by omega) (by omega)]
   exact⟨⟨t2+1,by omega,by omega⟩,by omega⟩
theorem ratQ_sz64 {r:RatV} (h:ratI r):(ratQ r).sz≤64:=by
 obtain⟨⟨a,b⟩,⟨c,d⟩,e,f⟩:=h
 have key:Rep (ratQ r) (if r.den<0 then -r.re else r.re) (if r.den<0 then -r.im else r.im) (if r.den=0 then 1 else r.den.natAbs):=by
  unfold ratQ
  split
  · rename_i h0
    have:¬r.den<0:=by omega
    rw[if_neg this,if_neg this]
    refine⟨by omega,?_,?_⟩<;>simp only[]<;>rw[Rat.div_def]<;>simp<;>grind
  · by_cases hn:r.den<0
    · rw[if_pos hn,if_pos hn]
      have hd:(r.den:Rat)≠0:=by
       intro e0
       have:=Rat.intCast_inj.1 (e0.trans Rat.intCast_zero.symm)
       omega
      have e:((r.den.natAbs:Nat):Rat) = -(r.den:Rat):=by
       have e1:((r.den.natAbs:Nat):Rat)=(((r.den.natAbs:Nat):Int):Rat):=rfl
       have e2:((r.den.natAbs:Nat):Int) = -r.den:=by omega
       rw[e1,e2,Rat.intCast_neg]
      refine⟨by omega,?_,?_⟩<;>simp only[e,Rat.intCast_neg]<;>grind
    · rw[if_neg hn,if_neg hn]
      have e:((r.den.natAbs:Nat):Rat)=(r.den:Rat):=by
       have e2:((r.den.natAbs:Nat):Int)=r.den:=by omega
       conv=>rhs; rw[←e2]
       rfl
      exact⟨by omega,by simp only[e],by simp only[e]⟩
 refine key.sz ?_ ?_ ?_
 · exact bl_le_of_lt (by split<;>omega)
 · exact bl_le_of_lt (by split<;>omega)
 · exact bl_le_of_lt (by split<;>omega)
theorem ratRows_sz {ms:List (List RatV)} (h:∀row∈ms,∀r∈row,ratI r):okRows 64 (ms.map fun row=>row.map ratQ):=by
 intro row hr z hz
 obtain⟨r,hr2,rfl⟩:=List.mem_map.1 hr
 obtain⟨q,hq,rfl⟩:=List.mem_map.1 hz
 exact ratQ_sz64 (h r hr2 q hq)
theorem gridR_sz {S:Nat} {rows:List (List Cq)} (h:okRows S rows):okRows S (gridR rows):=by
 unfold gridR; split
 · exact h
 · intro row hr; simp at hr
theorem bothR_sz {rows:List (List Cq)} {ws vs:List Cq} (back:Bool) {S T:Nat} (hr:Rect rows) (hS:okRows S rows) (hT:okSz T ws) (hT2:okSz T vs) (s1:1≤S) (t1:1≤T):okRows (64*(64*(S+T+2)+9+T+2)+9) (bothR back rows ws vs):=by
 unfold bothR
 by_cases e:bothOk rows ws vs=true
 · rw[if_pos e]
   obtain⟨n,m,hn,hm,ew,ev,M⟩:=bothOk_mid e hr
   exact bothF_sz M hn hm back ew ev hS hT hT2 s1 t1
 · rw[if_neg e]
   intro row hr; simp at hr
theorem bothR_le {rows:List (List Cq)} {ws vs:List Cq} (back:Bool) (hr:Rect rows):(bothR back rows ws vs).length≤64∧∀row∈bothR back rows ws vs,row.length≤64:=by
 unfold bothR
 by_cases e:bothOk rows ws vs=true
 · rw[if_pos e]
   obtain⟨n,m,hn,hm,ew,ev,M⟩:=bothOk_mid e hr
   have M2:=bothF_mid M back ew ev
   have p6:2^n≤2^6:=Nat.pow_le_pow_right (by omega) hn
   have q6:2^m≤2^6:=Nat.pow_le_pow_right (by omega) hm
   exact⟨by rw[M2.len]; omega,fun row hr=>by rw[M2.row row hr]; omega⟩
 · rw[if_neg e]
   exact⟨by simp,fun row hr=>by simp at hr⟩
theorem tame_list {rs:List RatV}:(∀r∈rs.map smallR,ratI r)∧okSz 5 ((rs.map smallR).map ratQ):=by
 have t1:∀r∈rs.map smallR,tame r:=by intro r hr; obtain⟨a,_,rfl⟩:=List.mem_map.1 hr; exact smallR_tame a
 refine⟨fun r hr=>(t1 r hr).ok,fun z hz => ?_⟩
 obtain⟨r,hr,rfl⟩:=List.mem_map.1 hz
 exact tame_sz (t1 r hr)
theorem grids_right {ms:List (List RatV)} (h5:ms.length≤5) (h6:∀row∈ms,row.length≤6) :
 (decide (0<ms.length)&&ms.all fun row=>decide (0<row.length)&&decide (row.length=gcols ms))=gridOkB ms:=by
 unfold gridOkB
 have e1:decide (ms.length≤64)=true:=by simp; omega
 rw[e1,Bool.true_and]
 congr 1
 refine Bool.eq_iff_iff.2 ?_
 simp only[List.all_eq_true]
 refine forall_congr' fun row=>forall_congr' fun hr => ?_
 have:=h6 row hr
 unfold growOk
 rw[decide_eq_true (show row.length≤64 by omega),Bool.true_and]
 rfl
set_option maxHeartbeats 2000000 in
theorem TransformGrids_spec {V:View} {s w v:Sl} {ms:List (List RatV)} {ws vs:List RatV} {i j:Int} (h:RowsV 3 ratC V s ms) (hi:∀row∈ms,∀r∈row,ratI r) (hw:RatsAt V w ws) (hv:RatsAt V v vs) :
 CallV Tryz.prog n_waveportlaw07_TransformGrids #[s.v,w.v,v.v,.int .i64 i,.int .i64 j] V fun u _=>u = .bool true:=by
 have hl:s.len=ms.length:=h.len
 have hwl:w.len=ws.length:=hw.len
 have hvl:v.len=vs.length:=hv.len
 have ratle:∀ {V V':View},V.le V'→RowsV 3 ratC V s ms→RowsV 3 ratC V' s ms:=fun hle hh=>RowsV.le (P:=ratC) (fun _ _ _ h=>h) hle hh
 let rows:List (List Cq):=ms.map fun row=>row.map ratQ
 have hrect:Rect (gridR rows):=gridR_rect rows
 have hsz:okRows 64 (gridR rows):=gridR_sz (ratRows_sz hi)
 obtain⟨g64,c64,cpos⟩:=gridR_le rows
 have hlen30:∀row∈gridR rows,row.length≤2^30:=fun row hr=>by rw[hrect row hr]; omega
 refine waveportlaw07_TransformGrids_vc s w v i j V _ (fun _ _ _=>ms.length≤5∧ws.length≤9∧vs.length≤9)
  (fun _ x _=>∃t:Nat,x.t49=t∧t≤ms.length∧x.t11=(decide (0<ms.length)&&(ms.take t).all fun row=>decide (0<row.length)&&decide (row.length=gcols ms))∧∀row∈ms.take t,row.length≤6) (fun _ x _=>ms.length-x.t49.toNat)
  (fun _ _ _=>True) (fun _ x V'=>RowsV 5 qC V' x.o16.rows (gridR rows)) (fun _ _ _=>True) (fun _ x _=>x.t17=decide (0≤i∧i<(gridR rows).length)) (fun _ _ _=>True) ?_
 rw[hl,hwl,hvl]
 refine⟨⟨fun _=>awake_spec.mono fun u V1 _ hu=>⟨_,hu,rfl⟩,fun c1=>⟨fun _=>awake_spec.mono fun u V1 _ hu=>⟨_,hu,rfl⟩,fun c2=>⟨fun _=>awake_spec.mono fun u V1 _ hu=>⟨_,hu,rfl⟩,fun c3 => ?_⟩⟩⟩,?_⟩
 · have c1:=of_decide_eq_false c1
   have c2:=of_decide_eq_false c2
   have c3:=of_decide_eq_false c3
   exact⟨by omega,by omega,by omega⟩
 rintro⟨u0⟩ V1 l1 ⟨n5,w9,v9⟩
 refine⟨⟨0,rfl,by omega,?_,by simp⟩,?_⟩
 · rw[List.take_zero,List.all_nil,Bool.and_true]
   exact decide_eq_decide.2 (by omega)
 rintro⟨t11,t49⟩ V5 l5 ⟨t,et,ht,e11,h6⟩
 dsimp only at et e11 ⊢
 subst et
 have L5:=View.le_trans l1 l5
 refine⟨fun hlt => ?_,fun hge => ?_⟩
 · have hk:t<ms.length:=by have:=of_decide_eq_true hlt; omega
   have ek:=getD_get hk []
   obtain⟨g1,s1,q1,q2⟩:=RowsV.row (ratle L5 h) (t:=(t:Int)) (by omega) (row:=ms.getD t []) (by rw[Int.toNat_natCast]; exact ek)
   rw[hl]at g1
   have hs1:s1.len=(ms.getD t []).length:=q2.len
   have tk:ms.take (t+1)=ms.take t++[ms.getD t []]:=by rw[List.take_add_one,ek]; rfl
   generalize ms.getD t []=row at *
   refine⟨g1,s1,q1,fun _=>awake_spec.mono fun u V1 _ hu=>⟨_,hu,rfl⟩,fun c6 => ?_⟩
   have c6:=of_decide_eq_false c6
   have all6:∀row'∈ms.take (t+1),row'.length≤6:=fun row' hr'=>by
    rw[tk]at hr'
    rcases List.mem_append.1 hr' with hr'|hr'
    · exact h6 row' hr'
    · rw[show row'=row by simpa using hr']; omega
   have e11':∀b:Bool,b=(t11&&(decide (0<row.length)&&decide (row.length=gcols ms)))→b=(decide (0<ms.length)&&(ms.take (t+1)).all fun row=>decide (0<row.length)&&decide (row.length=gcols ms)):=fun b hb=>by
    rw[hb,tk,List.all_append,e11,Bool.and_assoc]
    congr 2
    simp
   rw[i64w (by omega) (by omega)]
   refine⟨fun ht11=>⟨fun c0 => ?_,fun c0 => ?_⟩,fun ht11 => ?_⟩
   · obtain⟨row0,e0,e1⟩:=head_get (rows:=ms) (by omega)
     obtain⟨g0,s0,q3,q4⟩:=RowsV.row (ratle L5 h) (t:=(0:Int)) (by omega) (row:=row0) e0
     have hs0:s0.len=gcols ms:=by rw[←e1]; exact q4.len
     rw[hl]at g0
     have c0:=of_decide_eq_true c0
     refine⟨g0,s0,q3,⟨t+1,by omega,by omega,e11' _ ?_,all6⟩,by omega⟩
     rw[ht11,Bool.true_and,decide_eq_true (show 0<row.length by omega),Bool.true_and,hs1,hs0,Bool.eq_iff_iff]
     simp only[beq_iff_eq,decide_eq_true_eq]
     omega
   · have c0:=of_decide_eq_false c0
     refine⟨⟨t+1,by omega,by omega,e11' _ ?_,all6⟩,by omega⟩
     rw[decide_eq_false (show ¬0<row.length by omega),Bool.false_and,Bool.and_false]
   · refine⟨⟨t+1,by omega,by omega,e11' _ ?_,all6⟩,by omega⟩
     rw[ht11,Bool.false_and]
 have et:t=ms.length:=by have:=of_decide_eq_false hge; omega
 subst et
 rw[List.take_length]at e11 h6
 have e11:t11=gridOkB ms:=by rw[e11]; exact grids_right n5 h6
 have eok:gridOkB rows=t11:=by rw[e11]; exact gridOk_map ratQ ms
 refine(law1_Rows_spec (ratle L5 h) (by omega) (fun row hr=>⟨by have:=h6 row hr; omega,hi row hr⟩)).mono fun u V7 l7 ⟨r5,hu,h5⟩=>⟨r5,hu,?_⟩
 refine(NewGrid_num_Num_spec h5).mono fun u V8 l8 ⟨r6,hu,hg⟩=>⟨r6,_,hu,?_,?_⟩
 · have ee:gridE (ms.map fun row=>row.map ratQ)=if t11=true then 0 else 4:=by unfold gridE; rw[show gridOkB (ms.map fun row=>row.map ratQ)=t11 from eok]
   rw[ee]
   cases t11<;>simp
 have L8:=View.le_trans L5 (View.le_trans l7 l8)
 have hg:RowsV 5 numC V8 r6.rows (gridR rows):=hg
 rintro⟨u2⟩ V9 l9 _
 refine⟨⟨fun ht => ?_,fun ht => ?_⟩,?_⟩
 · refine(refRows_spec (ratle (View.le_trans L8 l9) h) (by omega) (fun row hr=>⟨by have:=h6 row hr; omega,hi row hr⟩)).mono fun u V11 l11 ⟨r8,hu,h8⟩=>⟨r8,hu,?_⟩
   show RowsV 5 qC V11 r8 (gridR rows)
   unfold gridR; rw[eok,if_pos ht]; exact h8
 · show RowsV 5 qC V9 ⟨none,0,0⟩ (gridR rows)
   unfold gridR; rw[eok,if_neg (by rw[ht]; decide)]; exact ListAt.nil
 rintro⟨o16⟩ V10 l10 hq
 dsimp only at hq ⊢
 have L10:=View.le_trans l9 l10
 have hz40:okRows (2^40) (gridR rows):=fun row hr z hz=>Nat.le_trans (hsz row hr z hz) (by omega)
 refine⟨?_,?_⟩
 · refine(l7_is_spec (RowsV.le numC.le L10 hg) hq hrect (by omega) hlen30 hz40).mono fun u V13 l13 hu=>⟨_,hu,fun c=>absurd c (by decide),fun _ => ?_⟩
   refine(Turned_num_Num_spec (RowsV.le numC.le (View.le_trans L10 l13) hg) hrect (by omega) (by omega) Cq.zero).mono fun u V14 l14 ⟨r10,hu,h10⟩=>⟨r10,hu,?_⟩
   refine(r7_Turned_spec (RowsV.le qC.le (View.le_trans l13 l14) hq) hrect (by omega) (by omega)).mono fun u V15 l15 ⟨r11,hu,h11⟩=>⟨r11,hu,?_⟩
   have tlen:∀row∈turnG Cq.zero (gridR rows),row.length≤2^30:=fun row hr=>by
    unfold turnG matL at hr
    obtain⟨j,_,rfl⟩:=List.mem_map.1 hr
    rw[rowL_length]; omega
   refine(l7_is_spec (RowsV.le numC.le l15 h10) h11 (turnG_rect _ _) (by rw[turnG_length]; omega) tlen (turnG_sz hz40 (by omega))).mono fun u V16 l16 hu=>⟨_,hu,fun c=>absurd c (by decide),fun _=>trivial⟩
 rintro⟨u4⟩ V12 l12 _
 have hql:o16.rows.len=(gridR rows).length:=hq.len
 refine⟨⟨fun c => ?_,fun c => ?_⟩,?_⟩
 · show decide (i<(o16.rows.len:Int))=_
   have c:=of_decide_eq_true c
   rw[hql]; exact decide_eq_decide.2 (by omega)
 · show false=_
   have c:=of_decide_eq_false c
   exact(decide_eq_false (by omega)).symm
 rintro⟨t17⟩ V17 l17 e17
 dsimp only at e17 ⊢
 have L17:=View.le_trans L10 (View.le_trans l12 l17)
 refine(RowV_num_Num (i:=i) (RowsV.le numC.le L17 hg) hlen30).mono fun u V18 l18 ⟨r13,r14,hu,a1,a2⟩=>⟨r13,r14,hu,?_⟩
 refine(At_num_Num_spec (i:=i) (j:=j) (RowsV.le numC.le (View.le_trans L17 l18) hg) hrect Cq.zero).mono fun u V19 l19 ⟨r15,r16,hu,b1,b2⟩=>⟨r15,r16,hu,?_,?_⟩
 · by_cases hin:0≤i∧i<(gridR rows).length
   · have e14:r14=0:=(a1 hin).1
     have e17':t17=true:=by rw[e17]; exact decide_eq_true hin
     subst e14; subst e17'
     refine⟨fun c=>absurd c (by decide),fun _=>⟨fun _=>⟨fun cj => ?_,fun cj => ?_⟩,fun c=>absurd c (by decide)⟩⟩
     · have cj:=of_decide_eq_true cj
       obtain⟨row0,e0,e1⟩:=head_get (rows:=gridR rows) (by omega)
       obtain⟨g0,s0,q3,q4⟩:=(RowsV.le qC.le (View.le_trans l12 (View.le_trans l17 (View.le_trans l18 l19))) hq).row (t:=(0:Int)) (by omega) (row:=row0) e0
       have hs0:s0.len=gcols (gridR rows):=by rw[←e1]; exact q4.len
       refine⟨g0,s0,q3,?_⟩
       rw[hs0]
       by_cases hj:j<(gcols (gridR rows):Nat)
       · have e16:r16=0:=(b1 ⟨hin,cj,hj⟩).1
         subst e16
         simp[hj]
       · have e16:r16=1:=b2 (fun k=>hj k.2.2)
         subst e16
         simp[hj]
     · have cj:=of_decide_eq_false cj
       have e16:r16=1:=b2 (fun k=>by omega)
       subst e16
       simp
   · have e14:r14=1:=(a2 hin).1
     have e16:r16=1:=b2 (fun k=>hin k.1)
     have e17':t17=false:=by rw[e17]; exact decide_eq_false hin
     subst e14; subst e17'; subst e16
     simp
 rintro⟨u6⟩ V20 l20 _
 have M20:=View.le_trans L8 (View.le_trans L17 (View.le_trans l18 (View.le_trans l19 l20)))
 have N20:=View.le_trans L17 (View.le_trans l18 (View.le_trans l19 l20))
 have Q20:=View.le_trans l12 (View.le_trans l17 (View.le_trans l18 (View.le_trans l19 l20)))
 obtain⟨wi,wz⟩:=tame_list (rs:=ws)
 obtain⟨vi,vz⟩:=tame_list (rs:=vs)
 refine(plainR_spec (hw.le M20) (by omega)).mono fun u V21 l21 ⟨r17,hu,h17⟩=>⟨r17,hu,?_⟩
 refine(plainR_spec (hv.le (View.le_trans M20 l21)) (by omega)).mono fun u V22 l22 ⟨r18,hu,h18⟩=>⟨r18,hu,?_⟩
 have wlen:(ws.map smallR).length≤2^32:=by rw[List.length_map]; omega
 have vlen:(vs.map smallR).length≤2^32:=by rw[List.length_map]; omega
 refine(law1_List_spec (h17.le l22) wi wlen).mono fun u V23 l23 ⟨r19,hu,h19⟩=>⟨r19,hu,?_⟩
 refine(law1_List_spec (h18.le l23) vi vlen).mono fun u V24 l24 ⟨r20,hu,h20⟩=>⟨r20,hu,?_⟩
 have A24:=View.le_trans l21 (View.le_trans l22 (View.le_trans l23 l24))
 refine(ForwardGrid_spec 64 5 (RowsV.le numC.le (View.le_trans N20 A24) hg) hrect (h19.le l24) h20 hsz wz vz (by omega) (by omega) (by omega)).mono fun u V25 l25 ⟨r21,hu,h21⟩=>⟨r21,_,hu,?_⟩
 have L2225:=View.le_trans l22 (View.le_trans l23 (View.le_trans l24 l25))
 refine(refList_spec (h17.le L2225) wi wlen).mono fun u V26 l26 ⟨r23,hu,h23⟩=>⟨r23,hu,?_⟩
 refine(refList_spec (h18.le (View.le_trans l23 (View.le_trans l24 (View.le_trans l25 l26)))) vi vlen).mono fun u V27 l27 ⟨r24,hu,h24⟩=>⟨r24,hu,?_⟩
 have A27:=View.le_trans A24 (View.le_trans l25 (View.le_trans l26 l27))
 refine(r7_ForwardGrid_spec 64 5 (RowsV.le qC.le (View.le_trans Q20 A27) hq) hrect (h23.le l27) h24 hsz wz vz (by omega) (by omega) (by omega)).mono fun u V28 l28 ⟨r25,hu,h25⟩=>⟨r25,_,hu,?_⟩
 have W28:=View.le_trans L2225 (View.le_trans l26 (View.le_trans l27 l28))
 refine(law1_List_spec (h17.le W28) wi wlen).mono fun u V29 l29 ⟨r27,hu,h27⟩=>⟨r27,hu,?_⟩
 have Z28:=View.le_trans l23 (View.le_trans l24 (View.le_trans l25 (View.le_trans l26 (View.le_trans l27 l28))))
 refine(law1_List_spec (h18.le (View.le_trans Z28 l29)) vi vlen).mono fun u V30 l30 ⟨r28,hu,h28⟩=>⟨r28,hu,?_⟩
 have A30:=View.le_trans A27 (View.le_trans l28 (View.le_trans l29 l30))
 refine(BackGrid_spec 64 5 (RowsV.le numC.le (View.le_trans N20 A30) hg) hrect (h27.le l30) h28 hsz wz vz (by omega) (by omega) (by omega)).mono fun u V31 l31 ⟨r29,hu,h29⟩=>⟨r29,_,hu,?_⟩
 have W31:=View.le_trans l29 (View.le_trans l30 l31)
 refine(refList_spec (h17.le (View.le_trans W28 W31)) wi wlen).mono fun u V32 l32 ⟨r31,hu,h31⟩=>⟨r31,hu,?_⟩
 refine(refList_spec (h18.le (View.le_trans Z28 (View.le_trans W31 l32))) vi vlen).mono fun u V33 l33 ⟨r32,hu,h32⟩=>⟨r32,hu,?_⟩
 have A33:=View.le_trans A30 (View.le_trans l31 (View.le_trans l32 l33))
 refine(r7_BackGrid_spec 64 5 (RowsV.le qC.le (View.le_trans Q20 A33) hq) hrect (h31.le l33) h32 hsz wz vz (by omega) (by omega) (by omega)).mono fun u V34 l34 ⟨r33,hu,h33⟩=>⟨r33,_,hu,fun _=>⟨fun _ => ?_,fun c=>absurd c (by simp)⟩,fun c=>absurd c (by simp)⟩
 have B2834:=View.le_trans W31 (View.le_trans l32 (View.le_trans l33 l34))
 have zf:=bothR_sz false hrect hsz wz vz (by omega) (by omega)
 have zb:=bothR_sz true hrect hsz wz vz (by omega) (by omega)
 obtain⟨f1,f2⟩:=bothR_le (ws:=(ws.map smallR).map ratQ) (vs:=(vs.map smallR).map ratQ) false hrect
 obtain⟨k1,k2⟩:=bothR_le (ws:=(ws.map smallR).map ratQ) (vs:=(vs.map smallR).map ratQ) true hrect
 refine(l7_is_spec (RowsV.le numC.le (View.le_trans l26 (View.le_trans l27 (View.le_trans l28 B2834))) h21) (RowsV.le qC.le B2834 h25) (bothR_rect _ _ _ _) (by omega) (fun row hr=>Nat.le_trans (f2 row hr) (by omega)) (fun row hr z hz=>Nat.le_trans (zf row hr z hz) (by omega))).mono fun u V35 l35 hu=>⟨_,hu,fun _ => ?_,fun c=>absurd c (by decide)⟩
 refine(l7_is_spec (RowsV.le numC.le (View.le_trans l32 (View.le_trans l33 (View.le_trans l34 l35))) h29) (RowsV.le qC.le l35 h33) (bothR_rect _ _ _ _) (by omega) (fun row hr=>Nat.le_trans (k2 row hr) (by omega)) (fun row hr z hz=>Nat.le_trans (zb row hr z hz) (by omega))).mono fun u V36 l36 hu=>⟨_,hu,fun _ => ?_,fun c=>absurd c (by decide)⟩
 exact awake_spec.mono fun u V37 _ hu=>⟨_,hu,rfl⟩
end Go.Proofs.YtfdaofhjkdabbaaGreat
