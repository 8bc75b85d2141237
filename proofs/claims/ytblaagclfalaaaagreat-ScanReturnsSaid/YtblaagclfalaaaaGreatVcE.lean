/- Part. -/
import Derived.Test.YtblaagclfalaaaaGreatVcD
namespace Go.Vc
open Go Go.RowKit
section laws
variable {P:Program} {Shp:N03} {V:View} {rt:Nat} {o:Oper} {ev:Operand->SV} {blk:Option (Option OB)} {k k':SV->Option OB->Prop}
theorem a0q{fl:Nat}{k:SV->Prop}(h:gen P fl o ev k):∃s,k s/\gen P fl o ev (λs'=>s'=s):=by
 revert h; unfold gen
 split
 . split
   . intro h; exact⟨_,h,rfl⟩
   . intro h; exact h.elim
 . rintro⟨v,hv,h⟩; exact⟨_,h,v,hv,rfl⟩
 . intro h; exact h.elim
theorem g09{fl:Nat}{k k':SV->Prop}(hk:∀s,k s->k' s)(h:gen P fl o ev k):gen P fl o ev k':=by
 revert h; unfold gen
 split
 . split
   . intro h; exact hk _ h
   . intro h; exact h.elim
 . rintro⟨v,hv,h⟩; exact⟨v,hv,hk _ h⟩
 . intro h; exact h.elim
theorem L0t{b:Option OB}{s:SV}(h:litK b k s):∃s' ob,k s' ob/\litK b (λs2 ob2=>s2=s'/\ob2=ob) s:=by
 unfold litK at h
 split at h
 . exact⟨_,_,h,rfl,rfl⟩
 . exact⟨_,_,h,rfl,rfl⟩
 . exact h.elim
theorem B0k{b:Option OB}{k k':SV->Option OB->Prop}(hk:∀s,k s b->k' s b){s:SV}(h:litK b k s):litK b k' s:=by
 unfold litK at h
 split at h
 . exact hk _ h
 . exact hk _ h
 . exact h.elim
theorem M0t(h:T06 P Shp V rt o ev blk k):∃s ob,k s ob/\T06 P Shp V rt o ev blk (λs' ob'=>s'=s/\ob'=ob):=by
 revert h; unfold T06
 repeat' split
 all_goals first
  | (intro h; exact h.elim)
  | (intro h; exact⟨_,_,h,rfl,rfl⟩)
theorem W0u(h:H0a P Shp V rt o ev blk k):∃s ob,k s ob/\H0a P Shp V rt o ev blk (λs' ob'=>s'=s/\ob'=ob):=by
 revert h; unfold H0a
 repeat' split
 all_goals first
  | (intro h; exact h.elim)
  | (intro h; exact h.2.elim)
  | (intro h; exact⟨_,_,h,rfl,rfl⟩)
  | (intro h; exact⟨_,_,h.2,h.1,rfl,rfl⟩)
theorem N0t(h:A07 P Shp V rt o ev blk k):∃s ob,k s ob/\A07 P Shp V rt o ev blk (λs' ob'=>s'=s/\ob'=ob):=by
 revert h; unfold A07
 repeat' split
 all_goals first
  | (intro h; exact h.elim)
  | (intro h; exact⟨_,_,h,rfl,rfl⟩)
  | (rintro⟨x,hx,h⟩; exact⟨_,_,h,x,hx,rfl,rfl⟩)
  | (rintro⟨x,hx,h⟩
     split at h
     . rename_i hv
       split at h
       . rename_i hb
         exact⟨_,_,h,x,hx,by rw[hv]; simp[hb]⟩
       . exact h.elim
     . exact h.elim)
theorem X0u(h:B07 P Shp V rt o ev blk k):∃s ob,k s ob/\B07 P Shp V rt o ev blk (λs' ob'=>s'=s/\ob'=ob):=by
 revert h; unfold B07
 repeat' split
 all_goals first
  | (intro h; exact h.elim)
  | (rintro⟨x,hx,h⟩; exact⟨_,_,h,x,hx,rfl,rfl⟩)
  | (rintro⟨x,hx,hs,h1,h⟩; exact⟨_,_,h,x,hx,hs,h1,rfl,rfl⟩)
  | (rintro⟨x,hx,hs,h⟩
     split at h
     . rename_i hv
       split at h
       . rename_i hb
         exact⟨_,_,h,x,hx,hs,by rw[hv]; simp[hb]⟩
       . exact h.elim
     . exact h.elim)
theorem Y0u(h:M08 P Shp V rt o ev blk k):∃s ob,k s ob/\M08 P Shp V rt o ev blk (λs' ob'=>s'=s/\ob'=ob):=by
 revert h; unfold M08
 repeat' split
 all_goals first
  | (intro h; exact h.elim)
  | (rintro⟨x,hx,h⟩; exact⟨_,_,h,x,hx,rfl,rfl⟩)
  | (rintro⟨x,hx,hs,h1,h⟩; exact⟨_,_,h,x,hx,hs,h1,rfl,rfl⟩)
  | (rintro⟨x,hx,hs,h⟩
     split at h
     . rename_i hv
       split at h
       . rename_i hb
         exact⟨_,_,h,x,hx,hs,by rw[hv]; simp[hb]⟩
       . exact h.elim
     . exact h.elim)
theorem O0t(h:g08 P Shp V rt o ev blk k):∃s ob,k s ob/\g08 P Shp V rt o ev blk (λs' ob'=>s'=s/\ob'=ob):=by
 revert h; unfold g08
 repeat' split
 all_goals first
  | (intro h; exact h.elim)
  | (rintro⟨b,off,cs,h0,h1,h2,h⟩; exact⟨_,_,h,b,off,cs,h0,h1,h2,rfl,rfl⟩)
theorem d0s(h:e07 P Shp V rt o ev blk k):∃s ob,k s ob/\e07 P Shp V rt o ev blk (λs' ob'=>s'=s/\ob'=ob):=by
 revert h; unfold e07
 repeat' split
 all_goals first
  | (intro h; exact h.elim)
  | (intro h; exact⟨_,_,h,rfl,rfl⟩)
  | (intro h; exact⟨_,_,h.2,h.1,rfl,rfl⟩)
theorem e0s(h:a05 P Shp V rt o ev blk k):∃s ob,k s ob/\a05 P Shp V rt o ev blk (λs' ob'=>s'=s/\ob'=ob):=by
 revert h; unfold a05
 repeat' split
 all_goals first
  | (intro h; exact h.elim)
  | (intro h; exact⟨_,_,h,rfl,rfl⟩)
  | (intro h; exact⟨_,_,h.2,h.1,rfl,rfl⟩)
theorem P0t(h:C07 P Shp V rt o ev blk k):∃s ob,k s ob/\C07 P Shp V rt o ev blk (λs' ob'=>s'=s/\ob'=ob):=by
 revert h; unfold C07
 repeat' split
 all_goals first
  | (intro h; exact h.elim)
  | (intro h; exact⟨_,_,h.2,h.1,rfl,rfl⟩)
  | (rintro⟨x,hx,h⟩; exact⟨_,_,h,x,hx,rfl,rfl⟩)
  | (rintro⟨h0,x,hx,h⟩
     split at h
     . rename_i hv
       split at h
       . rename_i hb
         exact⟨_,_,h,h0,x,hx,by rw[hv]; simp[hb]⟩
       . exact h.elim
     . exact h.elim)
theorem Q0t(h:D07 P Shp V rt o ev blk k):∃s ob,k s ob/\D07 P Shp V rt o ev blk (λs' ob'=>s'=s/\ob'=ob):=by
 revert h; unfold D07
 repeat' split
 all_goals first
  | (intro h; exact h.elim)
  | (rintro⟨vs,h1,h2,h3,h4,h5,h⟩; exact⟨_,_,h,vs,h1,h2,h3,h4,h5,rfl,rfl⟩)
theorem k0n{an:An}(h:N08 P Shp V an o ev blk k):∃s ob,k s ob/\N08 P Shp V an o ev blk (λs' ob'=>s'=s/\ob'=ob):=by
 revert h; unfold N08
 split
 . exact M0t
 . exact W0u
 . exact N0t
 . exact X0u
 . exact d0s
 . exact e0s
 . exact P0t
 . exact Q0t
 . exact Y0u
 . exact O0t
 . split
   . intro h; obtain⟨s,hk,hg⟩:=a0q h
     obtain⟨s',ob,hk',hl⟩:=L0t hk
     exact⟨s',ob,hk',g09 (λs2 e=>by rw[e]; exact hl) hg⟩
   . intro h; exact h.elim
 . unfold E0d
   repeat' split
   all_goals first
    | (intro h; exact h.elim)
    | (intro h; exact⟨_,_,h,rfl,rfl⟩)
 . split
   . intro h; obtain⟨s,hk,hg⟩:=a0q h; exact⟨s,_,hk,g09 (λs' e=>⟨e,rfl⟩) hg⟩
   . intro h; exact h.elim
 . split
   . intro h; obtain⟨s,hk,hg⟩:=a0q h; exact⟨s,_,hk,g09 (λs' e=>⟨e,rfl⟩) hg⟩
   . intro h; exact h.elim
theorem Y0e{an:An}(hk:∀s ob,k s ob->k' s ob)(h:N08 P Shp V an o ev blk k):N08 P Shp V an o ev blk k':=by
 revert h; unfold N08
 split
 . unfold T06; repeat' split
   all_goals first
    | (intro h; exact h.elim)
    | (intro h; exact hk _ _ h)
 . unfold H0a; repeat' split
   all_goals first
    | (intro h; exact h.elim)
    | (intro h; exact h.2.elim)
    | (intro h; exact hk _ _ h)
    | (intro h; exact⟨h.1,hk _ _ h.2⟩)
 . unfold A07; repeat' split
   all_goals first
    | (intro h; exact h.elim)
    | (intro h; exact hk _ _ h)
    | (rintro⟨x,hx,h⟩; exact⟨x,hx,hk _ _ h⟩)
    | (rintro⟨x,hx,h⟩
       refine⟨x,hx,?_⟩
       revert h
       split
       . split
         . exact hk _ _
         . exact id
       . exact id)
 . unfold B07; repeat' split
   all_goals first
    | (intro h; exact h.elim)
    | (rintro⟨x,hx,h⟩; exact⟨x,hx,hk _ _ h⟩)
    | (rintro⟨x,hx,hs,h1,h⟩; exact⟨x,hx,hs,h1,hk _ _ h⟩)
    | (rintro⟨x,hx,hs,h⟩
       refine⟨x,hx,hs,?_⟩
       revert h
       split
       . split
         . exact hk _ _
         . exact id
       . exact id)
 . unfold e07; repeat' split
   all_goals first
    | (intro h; exact h.elim)
    | (intro h; exact hk _ _ h)
    | (intro h; exact⟨h.1,hk _ _ h.2⟩)
 . unfold a05; repeat' split
   all_goals first
    | (intro h; exact h.elim)
    | (intro h; exact hk _ _ h)
    | (intro h; exact⟨h.1,hk _ _ h.2⟩)
 . unfold C07; repeat' split
   all_goals first
    | (intro h; exact h.elim)
    | (intro h; exact⟨h.1,hk _ _ h.2⟩)
    | (rintro⟨x,hx,h⟩; exact⟨x,hx,hk _ _ h⟩)
    | (rintro⟨h0,x,hx,h⟩
       refine⟨h0,x,hx,?_⟩
       revert h
       split
       . split
         . exact hk _ _
         . exact id
       . exact id)
 . unfold D07; repeat' split
   all_goals first
    | (intro h; exact h.elim)
    | (rintro⟨vs,h1,h2,h3,h4,h5,h⟩; exact⟨vs,h1,h2,h3,h4,h5,hk _ _ h⟩)
 . unfold M08; repeat' split
   all_goals first
    | (intro h; exact h.elim)
    | (rintro⟨x,hx,h⟩; exact⟨x,hx,hk _ _ h⟩)
    | (rintro⟨x,hx,hs,h⟩
       refine⟨x,hx,hs,?_⟩
       revert h
       split
       . split
         . exact hk _ _
         . exact id
       . exact id)
 . unfold g08; repeat' split
   all_goals first
    | (intro h; exact h.elim)
    | (rintro⟨b,off,cs,h0,h1,h2,h⟩; exact⟨b,off,cs,h0,h1,h2,hk _ _ h⟩)
 . split
   . exact g09 (λs=>B0k (λs=>hk s _))
   . exact id
 . unfold E0d; repeat' split
   all_goals first
    | (intro h; exact h.elim)
    | (intro h; exact hk _ _ h)
 . split
   . exact g09 (λs=>hk s _)
   . exact id
 . split
   . exact g09 (λs=>hk s _)
   . exact id
theorem k0o{an:An}{V':View}(hV:V.le V')(h:N08 P Shp V an o ev blk k):N08 P Shp V' an o ev blk k:=by
 revert h; unfold N08
 split
 . exact id
 . exact id
 . exact id
 . unfold B07; repeat' split
   all_goals first
    | exact id
    | (rintro⟨x,hx,h⟩; exact⟨x,k03 hV hx,h⟩)
    | (rintro⟨x,hx,hs,h⟩; exact⟨x,e0a hV hx,hs,h⟩)
 . exact id
 . exact id
 . exact id
 . unfold D07; repeat' split
   all_goals first
    | exact id
    | (rintro⟨vs,h1,h2,h3,h4,h5,h⟩; exact⟨vs,e0a hV h1,h2,h3,h4,h5,h⟩)
 . unfold M08; repeat' split
   all_goals first
    | exact id
    | (rintro⟨x,hx,h⟩; exact⟨x,a0s hV hx,h⟩)
    | (rintro⟨x,hx,hs,h⟩; exact⟨x,m0c hV hx,hs,h⟩)
 . exact id
 . split<;>exact id
 . exact id
 . split<;>exact id
 . split<;>exact id
theorem l0o{an:An}{b:Option OB}(h3:an.fl≠3)(h6:an.fl≠6)(h16:an.fl≠16)(h23:an.fl≠23)(h:N08 P Shp V an o ev (some b) k):N08 P Shp V an o ev (some b) (λs ob=>ob=b/\k s ob):=by
 revert h; unfold N08
 split
 . unfold T06; repeat' split
   all_goals first
    | (intro h; exact h.elim)
    | (intro h; simp_all; done)
 . contradiction
 . unfold A07; repeat' split
   all_goals first
    | (intro h; exact h.elim)
    | (intro h; simp_all; done)
    | (rintro⟨x,hx,h⟩; refine⟨x,hx,?_⟩; simp_all; done)
    | (rintro⟨x,hx,h⟩
       refine⟨x,hx,?_⟩
       revert h
       split
       . split
         . intro h; simp_all
         . exact id
       . exact id)
 . unfold B07; repeat' split
   all_goals first
    | (intro h; exact h.elim)
    | (rintro⟨x,hx,h⟩; refine⟨x,hx,?_⟩; simp_all; done)
    | (rintro⟨x,hx,hs,h1,h⟩; refine⟨x,hx,hs,h1,?_⟩; simp_all; done)
    | (rintro⟨x,hx,hs,h⟩
       refine⟨x,hx,hs,?_⟩
       revert h
       split
       . split
         . intro h; simp_all
         . exact id
       . exact id)
 . contradiction
 . unfold a05; repeat' split
   all_goals first
    | (intro h; exact h.elim)
    | (intro h; simp_all; done)
 . unfold C07; repeat' split
   all_goals first
    | (intro h; exact h.elim)
    | (intro h; simp_all; done)
    | (rintro⟨x,hx,h⟩; refine⟨x,hx,?_⟩; simp_all; done)
 . contradiction
 . unfold M08; repeat' split
   all_goals first
    | (intro h; exact h.elim)
    | (rintro⟨x,hx,h⟩; refine⟨x,hx,?_⟩; simp_all; done)
    | (rintro⟨x,hx,hs,h⟩
       refine⟨x,hx,hs,?_⟩
       revert h
       split
       . split
         . intro h; simp_all
         . exact id
       . exact id)
 . contradiction
 . exact g09 (λs=>B0k (λs h=>⟨rfl,h⟩))
 . unfold E0d; repeat' split
   all_goals first
    | (intro h; exact h.elim)
    | (intro h; simp_all; done)
 . exact g09 (λs h=>⟨rfl,h⟩)
 . exact g09 (λs h=>⟨rfl,h⟩)
end laws
section congr
variable {P:Program} {Shp:N03} {V:View} {rt:Nat} {o:Oper} {ev ev':Operand->SV} {blk:Option (Option OB)} {k:SV->Option OB->Prop}
theorem Z0e{α:Type}{p q:α->Bool}:∀ {l:List α},(∀x∈l,p x=q x)->l.all p=l.all q
 | [],_=>rfl
 | x::l,h=>by simp[h x (by simp),Z0e (l:=l) (λy hy=>h y (by simp[hy]))]
theorem C0g{fl:Nat}{k:SV->Prop}(hev:∀x∈o.op.operands,ev x=ev' x)(h:gen P fl o ev k):gen P fl o ev' k:=by
 have h1:o.op.operands.toList.all (λx=>(ev x).asVal.isSome)=o.op.operands.toList.all (λx=>(ev' x).asVal.isSome) :=
  Z0e λx hx=>by rw[hev x (by simpa using hx)]
 cases hs:X0d o.op with
 | true=>unfold gen at h; rw[hs]at h; exact h.elim
 | false =>
   have h2:execOp (rho ev) o=execOp (rho ev') o :=
    execOp_congr o (by intro cs b e; rw[e]at hs; simp[X0d]at hs) (λx hx=>by simp[rho,hev x hx])
   unfold gen at h ⊢
   rw[<-h1,<-h2]; exact h
theorem m0o(hev:∀x∈o.op.operands,ev x=ev' x)(h:T06 P Shp V rt o ev blk k):T06 P Shp V rt o ev' blk k:=by
 revert h; unfold T06
 split
 . rename_i x hop; rw[hev x (by simp[hop,Op.operands])]; exact id
 . rename_i x hop; rw[hev x (by simp[hop,Op.operands])]; exact id
 . rename_i c x y hop; rw[hev c (by simp[hop,Op.operands]),hev x (by simp[hop,Op.operands]),hev y (by simp[hop,Op.operands])]; exact id
 . rename_i x i hop; rw[hev x (by simp[hop,Op.operands])]; exact id
 . exact id
theorem l08{o:Oper}{ev ev':Operand->SV}(hev:∀x∈o.op.operands,ev x=ev' x):Y0d P o ev=Y0d P o ev':=by
 unfold Y0d
 split
 . rename_i t n parts hop
   have hp:∀p∈parts.toList,ev p.2=ev' p.2:=λp hp=>hev p.2 (by simp[hop,Op.operands]; exact⟨p.1,by simpa using hp⟩)
   have h1:parts.toList.all (λp=>(ev p.2).asVal.isSome)=parts.toList.all (λp=>(ev' p.2).asVal.isSome):=Z0e λp h=>by rw[hp p h]
   have h2:(parts.toList.map λp=>(p.1,rho ev p.2))=parts.toList.map λp=>(p.1,rho ev' p.2):=List.map_congr_left λp h=>by simp[rho,hp p h]
   rw[h1,h2]
 . rfl
theorem b0q(hev:∀x∈o.op.operands,ev x=ev' x)(h:H0a P Shp V rt o ev blk k):H0a P Shp V rt o ev' blk k:=by
 revert h; unfold H0a
 split
 . exact id
 . rename_i t x hop; rw[hev x (by simp[hop,Op.operands])]; exact id
 . rename_i t n c hop; rw[hev n (by simp[hop,Op.operands]),hev c (by simp[hop,Op.operands])]; exact id
 . rename_i t n parts hop; rw[l08 hev]; exact id
 . exact id
theorem n0o(hev:∀x∈o.op.operands,ev x=ev' x)(h:A07 P Shp V rt o ev blk k):A07 P Shp V rt o ev' blk k:=by
 revert h; unfold A07
 split
 . rename_i t p ob hop; rw[hev p (by simp[hop,Op.operands])]; exact id
 . exact id
theorem c0q(hev:∀x∈o.op.operands,ev x=ev' x)(h:B07 P Shp V rt o ev blk k):B07 P Shp V rt o ev' blk k:=by
 revert h; unfold B07
 split
 . rename_i t p b hop; rw[hev p (by simp[hop,Op.operands])]; exact id
 . rename_i src dst x b hop; rw[hev x (by simp[hop,Op.operands])]; exact id
 . exact id
theorem a0m(hev:∀x∈o.op.operands,ev x=ev' x)(h:e07 P Shp V rt o ev blk k):e07 P Shp V rt o ev' blk k:=by
 revert h; unfold e07
 split
 . rename_i t p x ob hop; rw[hev p (by simp[hop,Op.operands]),hev x (by simp[hop,Op.operands])]; exact id
 . exact id
theorem d0q(hev:∀x∈o.op.operands,ev x=ev' x)(h:M08 P Shp V rt o ev blk k):M08 P Shp V rt o ev' blk k:=by
 revert h; unfold M08
 split
 . rename_i t p ty m hop; rw[hev p (by simp[hop,Op.operands])]; exact id
 . exact id
theorem o0o(hev:∀x∈o.op.operands,ev x=ev' x)(h:g08 P Shp V rt o ev blk k):g08 P Shp V rt o ev' blk k:=by
 revert h; unfold g08
 split
 . rename_i t p x ty m hop; rw[hev p (by simp[hop,Op.operands]),hev x (by simp[hop,Op.operands])]; exact id
 . exact id
theorem b0m(hev:∀x∈o.op.operands,ev x=ev' x)(h:a05 P Shp V rt o ev blk k):a05 P Shp V rt o ev' blk k:=by
 revert h; unfold a05
 split
 . rename_i s p f b hop; rw[hev p (by simp[hop,Op.operands])]; exact id
 . rename_i t x i b hop; rw[hev x (by simp[hop,Op.operands]),hev i (by simp[hop,Op.operands])]; exact id
 . rename_i t x lo hi mx b hop
   rw[hev x (by simp[hop,Op.operands])]
   cases lo with
   | none => cases hi with
     | none=>exact id
     | some y=>simp only[hev y (by simp[hop,Op.operands])]; exact id
   | some z => cases hi with
     | none=>simp only[hev z (by simp[hop,Op.operands])]; exact id
     | some y=>simp only[hev y (by simp[hop,Op.operands]),hev z (by simp[hop,Op.operands])]; exact id
 . rename_i c b hop
   split
   . rename_i x t hcal hargs htys
     rw[hev x (by
      have:x∈c.args.toList:=by rw[hargs]; simp
      simp only[hop,Op.operands,Call.operands]
      simp at this
      simp[this])]
     exact id
   . exact id
 . rename_i f first caps b hop
   split
   . rename_i p hf hc
     rw[hev p (by
      have:p∈caps.toList:=by rw[hc]; simp
      simp at this
      simp[hop,Op.operands,this])]
     exact id
   . exact id
 . exact id
theorem i09{ev ev':Operand->SV}:∀ {l:List Operand},(∀x∈l,ev x=ev' x)->L08 ev l=L08 ev' l
 | [],_=>rfl
 | x::l,h=>by simp[L08,h x (by simp),i09 (l:=l) (λy hy=>h y (by simp[hy]))]
theorem q0o(hev:∀x∈o.op.operands,ev x=ev' x)(h:C07 P Shp V rt o ev blk k):C07 P Shp V rt o ev' blk k:=by
 revert h; unfold C07
 split
 . exact id
 . split
   . rename_i op t x y yt hop
     rw[hev x (by simp[hop,Op.operands]),hev y (by simp[hop,Op.operands])]; exact id
   . rename_i c hop
     have hc:∀x∈c.args.toList,ev x=ev' x:=λx hx=>hev x (by
      simp only[hop,Op.operands,Call.operands]
      simp at hx
      simp[hx])
     split
     . rename_i x y hcal hargs
       rw[hargs]at hc
       rw[hc x (by simp),hc y (by simp)]; exact id
     . rename_i x y hcal hargs
       rw[hargs]at hc
       rw[hc x (by simp),hc y (by simp)]; exact id
     . rw[i09 hc]; exact id
     . exact id
   . rename_i t x ix hop
     rw[hev x (by simp[hop,Op.operands]),hev ix (by simp[hop,Op.operands])]; exact id
   . rename_i t x lo hi mx hop
     rw[hev x (by simp[hop,Op.operands]),hev mx (by simp[hop,Op.operands])]
     cases lo with
     | none => cases hi with
       | none=>exact id
       | some y=>simp only[hev y (by simp[hop,Op.operands])]; exact id
     | some z => cases hi with
       | none=>simp only[hev z (by simp[hop,Op.operands])]; exact id
       | some y=>simp only[hev y (by simp[hop,Op.operands]),hev z (by simp[hop,Op.operands])]; exact id
   . exact id
theorem s0o(hev:∀x∈o.op.operands,ev x=ev' x)(h:D07 P Shp V rt o ev blk k):D07 P Shp V rt o ev' blk k:=by
 revert h; unfold D07
 split
 . rename_i c ob hop
   have hc:∀x∈c.args.toList,ev x=ev' x:=λx hx=>hev x (by
    simp only[hop,Op.operands,Call.operands]
    simp at hx
    simp[hx])
   split
   . rename_i x y t t2 hcal hargs htys
     rw[hargs]at hc
     rw[hc x (by simp),hc y (by simp)]; exact id
   . exact id
 . exact id
theorem c0m{an:An}(hev:∀x∈o.op.operands,ev x=ev' x)(h:N08 P Shp V an o ev blk k):N08 P Shp V an o ev' blk k:=by
 revert h; unfold N08
 split
 . exact m0o hev
 . exact b0q hev
 . exact n0o hev
 . exact c0q hev
 . exact a0m hev
 . exact b0m hev
 . exact q0o hev
 . exact s0o hev
 . exact d0q hev
 . exact o0o hev
 . split
   . exact C0g hev
   . exact id
 . unfold E0d; split
   . rename_i t x b hop; rw[hev x (by simp[hop,Op.operands])]; exact id
   . rename_i c x y b hop; rw[hev c (by simp[hop,Op.operands]),hev x (by simp[hop,Op.operands]),hev y (by simp[hop,Op.operands])]; exact id
   . exact id
 . split
   . exact C0g hev
   . exact id
 . split
   . exact C0g hev
   . exact id
end congr
