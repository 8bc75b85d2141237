/- Part. -/
import Derived.Test.YtblaagclfalaaaaGreatVcD
namespace Go.Vc
open Go Go.RowKit
section laws
variable {P:Program} {Shp:t04} {V:View} {rt:Nat} {o:Oper} {ev:Operand->SV} {blk:Option (Option OB)} {k k':SV->Option OB->Prop}
theorem z0q{fl:Nat}{k:SV->Prop}(h:gen P fl o ev k):∃s,k s/\gen P fl o ev (λs'=>s'=s):=by
 revert h; unfold gen
 split
 . split
   . intro h; exact⟨_,h,rfl⟩
   . intro h; exact h.elim
 . rintro⟨v,hv,h⟩; exact⟨_,h,v,hv,rfl⟩
 . intro h; exact h.elim
theorem H08{fl:Nat}{k k':SV->Prop}(hk:∀s,k s->k' s)(h:gen P fl o ev k):gen P fl o ev k':=by
 revert h; unfold gen
 split
 . split
   . intro h; exact hk _ h
   . intro h; exact h.elim
 . rintro⟨v,hv,h⟩; exact⟨v,hv,hk _ h⟩
 . intro h; exact h.elim
theorem p0t{b:Option OB}{s:SV}(h:litK b k s):∃s' ob,k s' ob/\litK b (λs2 ob2=>s2=s'/\ob2=ob) s:=by
 unfold litK at h
 split at h
 . exact⟨_,_,h,rfl,rfl⟩
 . exact⟨_,_,h,rfl,rfl⟩
 . exact h.elim
theorem N0k{b:Option OB}{k k':SV->Option OB->Prop}(hk:∀s,k s b->k' s b){s:SV}(h:litK b k s):litK b k' s:=by
 unfold litK at h
 split at h
 . exact hk _ h
 . exact hk _ h
 . exact h.elim
theorem q0t(h:i06 P Shp V rt o ev blk k):∃s ob,k s ob/\i06 P Shp V rt o ev blk (λs' ob'=>s'=s/\ob'=ob):=by
 revert h; unfold i06
 repeat' split
 all_goals first
  | (intro h; exact h.elim)
  | (intro h; exact⟨_,_,h,rfl,rfl⟩)
theorem n0u(h:N09 P Shp V rt o ev blk k):∃s ob,k s ob/\N09 P Shp V rt o ev blk (λs' ob'=>s'=s/\ob'=ob):=by
 revert h; unfold N09
 repeat' split
 all_goals first
  | (intro h; exact h.elim)
  | (intro h; exact h.2.elim)
  | (intro h; exact⟨_,_,h,rfl,rfl⟩)
  | (intro h; exact⟨_,_,h.2,h.1,rfl,rfl⟩)
theorem s0t(h:f07 P Shp V rt o ev blk k):∃s ob,k s ob/\f07 P Shp V rt o ev blk (λs' ob'=>s'=s/\ob'=ob):=by
 revert h; unfold f07
 repeat' split
 all_goals first
  | (intro h; exact h.elim)
  | (intro h; exact⟨_,_,h,rfl,rfl⟩)
  | (rintro⟨x,hx,h⟩; exact⟨_,_,h,x,hx,rfl,rfl⟩)
  | (rintro⟨x,hx,h⟩
     split at h
     . rename_i hv
       split at h
       . rename_i hb
         exact⟨_,_,h,x,hx,by rw[hv]; simp[hb]⟩
       . exact h.elim
     . exact h.elim)
theorem o0u(h:g07 P Shp V rt o ev blk k):∃s ob,k s ob/\g07 P Shp V rt o ev blk (λs' ob'=>s'=s/\ob'=ob):=by
 revert h; unfold g07
 repeat' split
 all_goals first
  | (intro h; exact h.elim)
  | (rintro⟨x,hx,h⟩; exact⟨_,_,h,x,hx,rfl,rfl⟩)
  | (rintro⟨x,hx,hs,h1,h⟩; exact⟨_,_,h,x,hx,hs,h1,rfl,rfl⟩)
  | (rintro⟨x,hx,hs,h⟩
     split at h
     . rename_i hv
       split at h
       . rename_i hb
         exact⟨_,_,h,x,hx,hs,by rw[hv]; simp[hb]⟩
       . exact h.elim
     . exact h.elim)
theorem p0u(h:w08 P Shp V rt o ev blk k):∃s ob,k s ob/\w08 P Shp V rt o ev blk (λs' ob'=>s'=s/\ob'=ob):=by
 revert h; unfold w08
 repeat' split
 all_goals first
  | (intro h; exact h.elim)
  | (rintro⟨x,hx,h⟩; exact⟨_,_,h,x,hx,rfl,rfl⟩)
  | (rintro⟨x,hx,hs,h1,h⟩; exact⟨_,_,h,x,hx,hs,h1,rfl,rfl⟩)
  | (rintro⟨x,hx,hs,h⟩
     split at h
     . rename_i hv
       split at h
       . rename_i hb
         exact⟨_,_,h,x,hx,hs,by rw[hv]; simp[hb]⟩
       . exact h.elim
     . exact h.elim)
theorem t0t(h:H07 P Shp V rt o ev blk k):∃s ob,k s ob/\H07 P Shp V rt o ev blk (λs' ob'=>s'=s/\ob'=ob):=by
 revert h; unfold H07
 repeat' split
 all_goals first
  | (intro h; exact h.elim)
  | (rintro⟨b,off,cs,h0,h1,h2,h⟩; exact⟨_,_,h,b,off,cs,h0,h1,h2,rfl,rfl⟩)
theorem k0s(h:A06 P Shp V rt o ev blk k):∃s ob,k s ob/\A06 P Shp V rt o ev blk (λs' ob'=>s'=s/\ob'=ob):=by
 revert h; unfold A06
 repeat' split
 all_goals first
  | (intro h; exact h.elim)
  | (intro h; exact⟨_,_,h,rfl,rfl⟩)
  | (intro h; exact⟨_,_,h.2,h.1,rfl,rfl⟩)
theorem l0s(h:x04 P Shp V rt o ev blk k):∃s ob,k s ob/\x04 P Shp V rt o ev blk (λs' ob'=>s'=s/\ob'=ob):=by
 revert h; unfold x04
 repeat' split
 all_goals first
  | (intro h; exact h.elim)
  | (intro h; exact⟨_,_,h,rfl,rfl⟩)
  | (intro h; exact⟨_,_,h.2,h.1,rfl,rfl⟩)
theorem u0t(h:i07 P Shp V rt o ev blk k):∃s ob,k s ob/\i07 P Shp V rt o ev blk (λs' ob'=>s'=s/\ob'=ob):=by
 revert h; unfold i07
 repeat' split
 all_goals first
  | (intro h; exact h.elim)
  | (intro h; exact⟨_,_,h.2,h.1,rfl,rfl⟩)
  | (rintro⟨x,hx,h⟩; exact⟨_,_,h,x,hx,rfl,rfl⟩)
  | (rintro⟨h0,x,hx,h⟩
     split at h
     . rename_i hv
       split at h
       . rename_i hb
         exact⟨_,_,h,h0,x,hx,by rw[hv]; simp[hb]⟩
       . exact h.elim
     . exact h.elim)
theorem w0t(h:j07 P Shp V rt o ev blk k):∃s ob,k s ob/\j07 P Shp V rt o ev blk (λs' ob'=>s'=s/\ob'=ob):=by
 revert h; unfold j07
 repeat' split
 all_goals first
  | (intro h; exact h.elim)
  | (rintro⟨vs,h1,h2,h3,h4,h5,h⟩; exact⟨_,_,h,vs,h1,h2,h3,h4,h5,rfl,rfl⟩)
theorem U0n{an:An}(h:x08 P Shp V an o ev blk k):∃s ob,k s ob/\x08 P Shp V an o ev blk (λs' ob'=>s'=s/\ob'=ob):=by
 revert h; unfold x08
 split
 . exact q0t
 . exact n0u
 . exact s0t
 . exact o0u
 . exact k0s
 . exact l0s
 . exact u0t
 . exact w0t
 . exact p0u
 . exact t0t
 . split
   . intro h; obtain⟨s,hk,hg⟩:=z0q h
     obtain⟨s',ob,hk',hl⟩:=p0t hk
     exact⟨s',ob,hk',H08 (λs2 e=>by rw[e]; exact hl) hg⟩
   . intro h; exact h.elim
 . unfold i0d
   repeat' split
   all_goals first
    | (intro h; exact h.elim)
    | (intro h; exact⟨_,_,h,rfl,rfl⟩)
 . split
   . intro h; obtain⟨s,hk,hg⟩:=z0q h; exact⟨s,_,hk,H08 (λs' e=>⟨e,rfl⟩) hg⟩
   . intro h; exact h.elim
 . split
   . intro h; obtain⟨s,hk,hg⟩:=z0q h; exact⟨s,_,hk,H08 (λs' e=>⟨e,rfl⟩) hg⟩
   . intro h; exact h.elim
theorem F0e{an:An}(hk:∀s ob,k s ob->k' s ob)(h:x08 P Shp V an o ev blk k):x08 P Shp V an o ev blk k':=by
 revert h; unfold x08
 split
 . unfold i06; repeat' split
   all_goals first
    | (intro h; exact h.elim)
    | (intro h; exact hk _ _ h)
 . unfold N09; repeat' split
   all_goals first
    | (intro h; exact h.elim)
    | (intro h; exact h.2.elim)
    | (intro h; exact hk _ _ h)
    | (intro h; exact⟨h.1,hk _ _ h.2⟩)
 . unfold f07; repeat' split
   all_goals first
    | (intro h; exact h.elim)
    | (intro h; exact hk _ _ h)
    | (rintro⟨x,hx,h⟩; exact⟨x,hx,hk _ _ h⟩)
    | (rintro⟨x,hx,h⟩
       refine⟨x,hx,?_⟩
       revert h
       split
       . split
         . exact hk _ _
         . exact id
       . exact id)
 . unfold g07; repeat' split
   all_goals first
    | (intro h; exact h.elim)
    | (rintro⟨x,hx,h⟩; exact⟨x,hx,hk _ _ h⟩)
    | (rintro⟨x,hx,hs,h1,h⟩; exact⟨x,hx,hs,h1,hk _ _ h⟩)
    | (rintro⟨x,hx,hs,h⟩
       refine⟨x,hx,hs,?_⟩
       revert h
       split
       . split
         . exact hk _ _
         . exact id
       . exact id)
 . unfold A06; repeat' split
   all_goals first
    | (intro h; exact h.elim)
    | (intro h; exact hk _ _ h)
    | (intro h; exact⟨h.1,hk _ _ h.2⟩)
 . unfold x04; repeat' split
   all_goals first
    | (intro h; exact h.elim)
    | (intro h; exact hk _ _ h)
    | (intro h; exact⟨h.1,hk _ _ h.2⟩)
 . unfold i07; repeat' split
   all_goals first
    | (intro h; exact h.elim)
    | (intro h; exact⟨h.1,hk _ _ h.2⟩)
    | (rintro⟨x,hx,h⟩; exact⟨x,hx,hk _ _ h⟩)
    | (rintro⟨h0,x,hx,h⟩
       refine⟨h0,x,hx,?_⟩
       revert h
       split
       . split
         . exact hk _ _
         . exact id
       . exact id)
 . unfold j07; repeat' split
   all_goals first
    | (intro h; exact h.elim)
    | (rintro⟨vs,h1,h2,h3,h4,h5,h⟩; exact⟨vs,h1,h2,h3,h4,h5,hk _ _ h⟩)
 . unfold w08; repeat' split
   all_goals first
    | (intro h; exact h.elim)
    | (rintro⟨x,hx,h⟩; exact⟨x,hx,hk _ _ h⟩)
    | (rintro⟨x,hx,hs,h⟩
       refine⟨x,hx,hs,?_⟩
       revert h
       split
       . split
         . exact hk _ _
         . exact id
       . exact id)
 . unfold H07; repeat' split
   all_goals first
    | (intro h; exact h.elim)
    | (rintro⟨b,off,cs,h0,h1,h2,h⟩; exact⟨b,off,cs,h0,h1,h2,hk _ _ h⟩)
 . split
   . exact H08 (λs=>N0k (λs=>hk s _))
   . exact id
 . unfold i0d; repeat' split
   all_goals first
    | (intro h; exact h.elim)
    | (intro h; exact hk _ _ h)
 . split
   . exact H08 (λs=>hk s _)
   . exact id
 . split
   . exact H08 (λs=>hk s _)
   . exact id
theorem P0o{an:An}{V':View}(hV:V.le V')(h:x08 P Shp V an o ev blk k):x08 P Shp V' an o ev blk k:=by
 revert h; unfold x08
 split
 . exact id
 . exact id
 . exact id
 . unfold g07; repeat' split
   all_goals first
    | exact id
    | (rintro⟨x,hx,h⟩; exact⟨x,s03 hV hx,h⟩)
    | (rintro⟨x,hx,hs,h⟩; exact⟨x,o09 hV hx,hs,h⟩)
 . exact id
 . exact id
 . exact id
 . unfold j07; repeat' split
   all_goals first
    | exact id
    | (rintro⟨vs,h1,h2,h3,h4,h5,h⟩; exact⟨vs,o09 hV h1,h2,h3,h4,h5,h⟩)
 . unfold w08; repeat' split
   all_goals first
    | exact id
    | (rintro⟨x,hx,h⟩; exact⟨x,g0s hV hx,h⟩)
    | (rintro⟨x,hx,hs,h⟩; exact⟨x,g0d hV hx,hs,h⟩)
 . exact id
 . split<;>exact id
 . exact id
 . split<;>exact id
 . split<;>exact id
theorem Q0o{an:An}{b:Option OB}(h3:an.fl≠3)(h6:an.fl≠6)(h16:an.fl≠16)(h23:an.fl≠23)(h:x08 P Shp V an o ev (some b) k):x08 P Shp V an o ev (some b) (λs ob=>ob=b/\k s ob):=by
 revert h; unfold x08
 split
 . unfold i06; repeat' split
   all_goals first
    | (intro h; exact h.elim)
    | (intro h; simp_all; done)
 . contradiction
 . unfold f07; repeat' split
   all_goals first
    | (intro h; exact h.elim)
    | (intro h; simp_all; done)
    | (rintro⟨x,hx,h⟩; refine⟨x,hx,?_⟩; simp_all; done)
    | (rintro⟨x,hx,h⟩
       refine⟨x,hx,?_⟩
       revert h
       split
       . split
         . intro h; simp_all
         . exact id
       . exact id)
 . unfold g07; repeat' split
   all_goals first
    | (intro h; exact h.elim)
    | (rintro⟨x,hx,h⟩; refine⟨x,hx,?_⟩; simp_all; done)
    | (rintro⟨x,hx,hs,h1,h⟩; refine⟨x,hx,hs,h1,?_⟩; simp_all; done)
    | (rintro⟨x,hx,hs,h⟩
       refine⟨x,hx,hs,?_⟩
       revert h
       split
       . split
         . intro h; simp_all
         . exact id
       . exact id)
 . contradiction
 . unfold x04; repeat' split
   all_goals first
    | (intro h; exact h.elim)
    | (intro h; simp_all; done)
 . unfold i07; repeat' split
   all_goals first
    | (intro h; exact h.elim)
    | (intro h; simp_all; done)
    | (rintro⟨x,hx,h⟩; refine⟨x,hx,?_⟩; simp_all; done)
 . contradiction
 . unfold w08; repeat' split
   all_goals first
    | (intro h; exact h.elim)
    | (rintro⟨x,hx,h⟩; refine⟨x,hx,?_⟩; simp_all; done)
    | (rintro⟨x,hx,hs,h⟩
       refine⟨x,hx,hs,?_⟩
       revert h
       split
       . split
         . intro h; simp_all
         . exact id
       . exact id)
 . contradiction
 . exact H08 (λs=>N0k (λs h=>⟨rfl,h⟩))
 . unfold i0d; repeat' split
   all_goals first
    | (intro h; exact h.elim)
    | (intro h; simp_all; done)
 . exact H08 (λs h=>⟨rfl,h⟩)
 . exact H08 (λs h=>⟨rfl,h⟩)
end laws
section congr
variable {P:Program} {Shp:t04} {V:View} {rt:Nat} {o:Oper} {ev ev':Operand->SV} {blk:Option (Option OB)} {k:SV->Option OB->Prop}
theorem G0e{α:Type}{p q:α->Bool}:∀ {l:List α},(∀x∈l,p x=q x)->l.all p=l.all q
 | [],_=>rfl
 | x::l,h=>by simp[h x (by simp),G0e (l:=l) (λy hy=>h y (by simp[hy]))]
theorem p0g{fl:Nat}{k:SV->Prop}(hev:∀x∈o.op.operands,ev x=ev' x)(h:gen P fl o ev k):gen P fl o ev' k:=by
 have h1:o.op.operands.toList.all (λx=>(ev x).asVal.isSome)=o.op.operands.toList.all (λx=>(ev' x).asVal.isSome) :=
  G0e λx hx=>by rw[hev x (by simpa using hx)]
 cases hs:A0d o.op with
 | true=>unfold gen at h; rw[hs]at h; exact h.elim
 | false =>
   have h2:execOp (rho ev) o=execOp (rho ev') o :=
    execOp_congr o (by intro cs b e; rw[e]at hs; simp[A0d]at hs) (λx hx=>by simp[rho,hev x hx])
   unfold gen at h ⊢
   rw[<-h1,<-h2]; exact h
theorem S0o(hev:∀x∈o.op.operands,ev x=ev' x)(h:i06 P Shp V rt o ev blk k):i06 P Shp V rt o ev' blk k:=by
 revert h; unfold i06
 split
 . rename_i x hop; rw[hev x (by simp[hop,Op.operands])]; exact id
 . rename_i x hop; rw[hev x (by simp[hop,Op.operands])]; exact id
 . rename_i c x y hop; rw[hev c (by simp[hop,Op.operands]),hev x (by simp[hop,Op.operands]),hev y (by simp[hop,Op.operands])]; exact id
 . rename_i x i hop; rw[hev x (by simp[hop,Op.operands])]; exact id
 . exact id
theorem b08{o:Oper}{ev ev':Operand->SV}(hev:∀x∈o.op.operands,ev x=ev' x):B0d P o ev=B0d P o ev':=by
 unfold B0d
 split
 . rename_i t n parts hop
   have hp:∀p∈parts.toList,ev p.2=ev' p.2:=λp hp=>hev p.2 (by simp[hop,Op.operands]; exact⟨p.1,by simpa using hp⟩)
   have h1:parts.toList.all (λp=>(ev p.2).asVal.isSome)=parts.toList.all (λp=>(ev' p.2).asVal.isSome):=G0e λp h=>by rw[hp p h]
   have h2:(parts.toList.map λp=>(p.1,rho ev p.2))=parts.toList.map λp=>(p.1,rho ev' p.2):=List.map_congr_left λp h=>by simp[rho,hp p h]
   rw[h1,h2]
 . rfl
theorem A0q(hev:∀x∈o.op.operands,ev x=ev' x)(h:N09 P Shp V rt o ev blk k):N09 P Shp V rt o ev' blk k:=by
 revert h; unfold N09
 split
 . exact id
 . rename_i t x hop; rw[hev x (by simp[hop,Op.operands])]; exact id
 . rename_i t n c hop; rw[hev n (by simp[hop,Op.operands]),hev c (by simp[hop,Op.operands])]; exact id
 . rename_i t n parts hop; rw[b08 hev]; exact id
 . exact id
theorem T0o(hev:∀x∈o.op.operands,ev x=ev' x)(h:f07 P Shp V rt o ev blk k):f07 P Shp V rt o ev' blk k:=by
 revert h; unfold f07
 split
 . rename_i t p ob hop; rw[hev p (by simp[hop,Op.operands])]; exact id
 . exact id
theorem B0q(hev:∀x∈o.op.operands,ev x=ev' x)(h:g07 P Shp V rt o ev blk k):g07 P Shp V rt o ev' blk k:=by
 revert h; unfold g07
 split
 . rename_i t p b hop; rw[hev p (by simp[hop,Op.operands])]; exact id
 . rename_i src dst x b hop; rw[hev x (by simp[hop,Op.operands])]; exact id
 . exact id
theorem F0m(hev:∀x∈o.op.operands,ev x=ev' x)(h:A06 P Shp V rt o ev blk k):A06 P Shp V rt o ev' blk k:=by
 revert h; unfold A06
 split
 . rename_i t p x ob hop; rw[hev p (by simp[hop,Op.operands]),hev x (by simp[hop,Op.operands])]; exact id
 . exact id
theorem C0q(hev:∀x∈o.op.operands,ev x=ev' x)(h:w08 P Shp V rt o ev blk k):w08 P Shp V rt o ev' blk k:=by
 revert h; unfold w08
 split
 . rename_i t p ty m hop; rw[hev p (by simp[hop,Op.operands])]; exact id
 . exact id
theorem U0o(hev:∀x∈o.op.operands,ev x=ev' x)(h:H07 P Shp V rt o ev blk k):H07 P Shp V rt o ev' blk k:=by
 revert h; unfold H07
 split
 . rename_i t p x ty m hop; rw[hev p (by simp[hop,Op.operands]),hev x (by simp[hop,Op.operands])]; exact id
 . exact id
theorem G0m(hev:∀x∈o.op.operands,ev x=ev' x)(h:x04 P Shp V rt o ev blk k):x04 P Shp V rt o ev' blk k:=by
 revert h; unfold x04
 split
 . rename_i s p f b hop; rw[hev p (by simp[hop,Op.operands])]; exact id
 . rename_i t x i b hop; rw[hev x (by simp[hop,Op.operands]),hev i (by simp[hop,Op.operands])]; exact id
 . rename_i t x lo hi mx b hop
   rw[hev x (by simp[hop,Op.operands])]
   cases lo with
   | none => cases hi with
     | none=>exact id
     | some y=>simp only[hev y (by simp[hop,Op.operands])]; exact id
   | some z => cases hi with
     | none=>simp only[hev z (by simp[hop,Op.operands])]; exact id
     | some y=>simp only[hev y (by simp[hop,Op.operands]),hev z (by simp[hop,Op.operands])]; exact id
 . rename_i c b hop
   split
   . rename_i x t hcal hargs htys
     rw[hev x (by
      have:x∈c.args.toList:=by rw[hargs]; simp
      simp only[hop,Op.operands,Call.operands]
      simp at this
      simp[this])]
     exact id
   . exact id
 . rename_i f first caps b hop
   split
   . rename_i p hf hc
     rw[hev p (by
      have:p∈caps.toList:=by rw[hc]; simp
      simp at this
      simp[hop,Op.operands,this])]
     exact id
   . exact id
 . exact id
theorem I08{ev ev':Operand->SV}:∀ {l:List Operand},(∀x∈l,ev x=ev' x)->u08 ev l=u08 ev' l
 | [],_=>rfl
 | x::l,h=>by simp[u08,h x (by simp),I08 (l:=l) (λy hy=>h y (by simp[hy]))]
theorem W0o(hev:∀x∈o.op.operands,ev x=ev' x)(h:i07 P Shp V rt o ev blk k):i07 P Shp V rt o ev' blk k:=by
 revert h; unfold i07
 split
 . exact id
 . split
   . rename_i op t x y yt hop
     rw[hev x (by simp[hop,Op.operands]),hev y (by simp[hop,Op.operands])]; exact id
   . rename_i c hop
     have hc:∀x∈c.args.toList,ev x=ev' x:=λx hx=>hev x (by
      simp only[hop,Op.operands,Call.operands]
      simp at hx
      simp[hx])
     split
     . rename_i x y hcal hargs
       rw[hargs]at hc
       rw[hc x (by simp),hc y (by simp)]; exact id
     . rename_i x y hcal hargs
       rw[hargs]at hc
       rw[hc x (by simp),hc y (by simp)]; exact id
     . rw[I08 hc]; exact id
     . exact id
   . rename_i t x ix hop
     rw[hev x (by simp[hop,Op.operands]),hev ix (by simp[hop,Op.operands])]; exact id
   . rename_i t x lo hi mx hop
     rw[hev x (by simp[hop,Op.operands]),hev mx (by simp[hop,Op.operands])]
     cases lo with
     | none => cases hi with
       | none=>exact id
       | some y=>simp only[hev y (by simp[hop,Op.operands])]; exact id
     | some z => cases hi with
       | none=>simp only[hev z (by simp[hop,Op.operands])]; exact id
       | some y=>simp only[hev y (by simp[hop,Op.operands]),hev z (by simp[hop,Op.operands])]; exact id
   . exact id
theorem X0o(hev:∀x∈o.op.operands,ev x=ev' x)(h:j07 P Shp V rt o ev blk k):j07 P Shp V rt o ev' blk k:=by
 revert h; unfold j07
 split
 . rename_i c ob hop
   have hc:∀x∈c.args.toList,ev x=ev' x:=λx hx=>hev x (by
    simp only[hop,Op.operands,Call.operands]
    simp at hx
    simp[hx])
   split
   . rename_i x y t t2 hcal hargs htys
     rw[hargs]at hc
     rw[hc x (by simp),hc y (by simp)]; exact id
   . exact id
 . exact id
theorem H0m{an:An}(hev:∀x∈o.op.operands,ev x=ev' x)(h:x08 P Shp V an o ev blk k):x08 P Shp V an o ev' blk k:=by
 revert h; unfold x08
 split
 . exact S0o hev
 . exact A0q hev
 . exact T0o hev
 . exact B0q hev
 . exact F0m hev
 . exact G0m hev
 . exact W0o hev
 . exact X0o hev
 . exact C0q hev
 . exact U0o hev
 . split
   . exact p0g hev
   . exact id
 . unfold i0d; split
   . rename_i t x b hop; rw[hev x (by simp[hop,Op.operands])]; exact id
   . rename_i c x y b hop; rw[hev c (by simp[hop,Op.operands]),hev x (by simp[hop,Op.operands]),hev y (by simp[hop,Op.operands])]; exact id
   . exact id
 . split
   . exact p0g hev
   . exact id
 . split
   . exact p0g hev
   . exact id
end congr
