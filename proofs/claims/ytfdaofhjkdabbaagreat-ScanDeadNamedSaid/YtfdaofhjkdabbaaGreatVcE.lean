/- Part. -/
import Derived.Test.YtfdaofhjkdabbaaGreatVcD
namespace Go.Vc
open Go Go.RowKit
section laws
variable {P:Program} {Shp:k03} {V:View} {rt:Nat} {o:Oper} {ev:Operand->SV} {blk:Option (Option OB)} {k k':SV->Option OB->Prop}
theorem a0q{fl:Nat}{k:SV->Prop}(h:gen P fl o ev k):∃s,k s/\gen P fl o ev (λs'=>s'=s):=by
 revert h; unfold gen
 split
 . split
   . intro h; exact⟨_,h,rfl⟩
   . intro h; exact h.elim
 . rintro⟨v,hv,h⟩; exact⟨_,h,v,hv,rfl⟩
 . intro h; exact h.elim
theorem z06{fl:Nat}{k k':SV->Prop}(hk:∀s,k s->k' s)(h:gen P fl o ev k):gen P fl o ev k':=by
 revert h; unfold gen
 split
 . split
   . intro h; exact hk _ h
   . intro h; exact h.elim
 . rintro⟨v,hv,h⟩; exact⟨v,hv,hk _ h⟩
 . intro h; exact h.elim
theorem a0v{b:Option OB}{s:SV}(h:litK b k s):∃s' ob,k s' ob/\litK b (λs2 ob2=>s2=s'/\ob2=ob) s:=by
 unfold litK at h
 split at h
 . exact⟨_,_,h,rfl,rfl⟩
 . exact⟨_,_,h,rfl,rfl⟩
 . exact h.elim
theorem O0i{b:Option OB}{k k':SV->Option OB->Prop}(hk:∀s,k s b->k' s b){s:SV}(h:litK b k s):litK b k' s:=by
 unfold litK at h
 split at h
 . exact hk _ h
 . exact hk _ h
 . exact h.elim
theorem b0v(h:M04 P Shp V rt o ev blk k):∃s ob,k s ob/\M04 P Shp V rt o ev blk (λs' ob'=>s'=s/\ob'=ob):=by
 revert h; unfold M04
 repeat' split
 all_goals first
  | (intro h; exact h.elim)
  | (intro h; exact⟨_,_,h,rfl,rfl⟩)
theorem u0w(h:C07 P Shp V rt o ev blk k):∃s ob,k s ob/\C07 P Shp V rt o ev blk (λs' ob'=>s'=s/\ob'=ob):=by
 revert h; unfold C07
 repeat' split
 all_goals first
  | (intro h; exact h.elim)
  | (intro h; exact h.2.elim)
  | (intro h; exact⟨_,_,h,rfl,rfl⟩)
  | (intro h; exact⟨_,_,h.2,h.1,rfl,rfl⟩)
theorem c0v(h:m05 P Shp V rt o ev blk k):∃s ob,k s ob/\m05 P Shp V rt o ev blk (λs' ob'=>s'=s/\ob'=ob):=by
 revert h; unfold m05
 repeat' split
 all_goals first
  | (intro h; exact h.elim)
  | (intro h; exact⟨_,_,h,rfl,rfl⟩)
  | (rintro⟨x,hx,h⟩; exact⟨_,_,h,x,hx,rfl,rfl⟩)
  | (rintro⟨x,hx,h⟩
     split at h
     . rename_i hv
       split at h
       . rename_i hb
         exact⟨_,_,h,x,hx,by rw[hv]; simp[hb]⟩
       . exact h.elim
     . exact h.elim)
theorem w0w(h:n05 P Shp V rt o ev blk k):∃s ob,k s ob/\n05 P Shp V rt o ev blk (λs' ob'=>s'=s/\ob'=ob):=by
 revert h; unfold n05
 repeat' split
 all_goals first
  | (intro h; exact h.elim)
  | (rintro⟨x,hx,h⟩; exact⟨_,_,h,x,hx,rfl,rfl⟩)
  | (rintro⟨x,hx,hs,h1,h⟩; exact⟨_,_,h,x,hx,hs,h1,rfl,rfl⟩)
  | (rintro⟨x,hx,hs,h⟩
     split at h
     . rename_i hv
       split at h
       . rename_i hb
         exact⟨_,_,h,x,hx,hs,by rw[hv]; simp[hb]⟩
       . exact h.elim
     . exact h.elim)
theorem x0w(h:l06 P Shp V rt o ev blk k):∃s ob,k s ob/\l06 P Shp V rt o ev blk (λs' ob'=>s'=s/\ob'=ob):=by
 revert h; unfold l06
 repeat' split
 all_goals first
  | (intro h; exact h.elim)
  | (rintro⟨x,hx,h⟩; exact⟨_,_,h,x,hx,rfl,rfl⟩)
  | (rintro⟨x,hx,hs,h1,h⟩; exact⟨_,_,h,x,hx,hs,h1,rfl,rfl⟩)
  | (rintro⟨x,hx,hs,h⟩
     split at h
     . rename_i hv
       split at h
       . rename_i hb
         exact⟨_,_,h,x,hx,hs,by rw[hv]; simp[hb]⟩
       . exact h.elim
     . exact h.elim)
theorem d0v(h:K05 P Shp V rt o ev blk k):∃s ob,k s ob/\K05 P Shp V rt o ev blk (λs' ob'=>s'=s/\ob'=ob):=by
 revert h; unfold K05
 repeat' split
 all_goals first
  | (intro h; exact h.elim)
  | (rintro⟨b,off,cs,h0,h1,h2,h⟩; exact⟨_,_,h,b,off,cs,h0,h1,h2,rfl,rfl⟩)
theorem S0s(h:Y04 P Shp V rt o ev blk k):∃s ob,k s ob/\Y04 P Shp V rt o ev blk (λs' ob'=>s'=s/\ob'=ob):=by
 revert h; unfold Y04
 repeat' split
 all_goals first
  | (intro h; exact h.elim)
  | (intro h; exact⟨_,_,h,rfl,rfl⟩)
  | (intro h; exact⟨_,_,h.2,h.1,rfl,rfl⟩)
theorem T0s(h:s03 P Shp V rt o ev blk k):∃s ob,k s ob/\s03 P Shp V rt o ev blk (λs' ob'=>s'=s/\ob'=ob):=by
 revert h; unfold s03
 repeat' split
 all_goals first
  | (intro h; exact h.elim)
  | (intro h; exact⟨_,_,h,rfl,rfl⟩)
  | (intro h; exact⟨_,_,h.2,h.1,rfl,rfl⟩)
theorem e0v(h:o05 P Shp V rt o ev blk k):∃s ob,k s ob/\o05 P Shp V rt o ev blk (λs' ob'=>s'=s/\ob'=ob):=by
 revert h; unfold o05
 repeat' split
 all_goals first
  | (intro h; exact h.elim)
  | (intro h; exact⟨_,_,h.2,h.1,rfl,rfl⟩)
  | (rintro⟨x,hx,h⟩; exact⟨_,_,h,x,hx,rfl,rfl⟩)
  | (rintro⟨h0,x,hx,h⟩
     split at h
     . rename_i hv
       split at h
       . rename_i hb
         exact⟨_,_,h,h0,x,hx,by rw[hv]; simp[hb]⟩
       . exact h.elim
     . exact h.elim)
theorem f0v(h:p05 P Shp V rt o ev blk k):∃s ob,k s ob/\p05 P Shp V rt o ev blk (λs' ob'=>s'=s/\ob'=ob):=by
 revert h; unfold p05
 repeat' split
 all_goals first
  | (intro h; exact h.elim)
  | (rintro⟨vs,h1,h2,h3,h4,h5,h⟩; exact⟨_,_,h,vs,h1,h2,h3,h4,h5,rfl,rfl⟩)
theorem N0m{an:An}(h:m06 P Shp V an o ev blk k):∃s ob,k s ob/\m06 P Shp V an o ev blk (λs' ob'=>s'=s/\ob'=ob):=by
 revert h; unfold m06
 split
 . exact b0v
 . exact u0w
 . exact c0v
 . exact w0w
 . exact S0s
 . exact T0s
 . exact e0v
 . exact f0v
 . exact x0w
 . exact d0v
 . split
   . intro h; obtain⟨s,hk,hg⟩:=a0q h
     obtain⟨s',ob,hk',hl⟩:=a0v hk
     exact⟨s',ob,hk',z06 (λs2 e=>by rw[e]; exact hl) hg⟩
   . intro h; exact h.elim
 . unfold A0a
   repeat' split
   all_goals first
    | (intro h; exact h.elim)
    | (intro h; exact⟨_,_,h,rfl,rfl⟩)
 . split
   . intro h; obtain⟨s,hk,hg⟩:=a0q h; exact⟨s,_,hk,z06 (λs' e=>⟨e,rfl⟩) hg⟩
   . intro h; exact h.elim
 . split
   . intro h; obtain⟨s,hk,hg⟩:=a0q h; exact⟨s,_,hk,z06 (λs' e=>⟨e,rfl⟩) hg⟩
   . intro h; exact h.elim
theorem j0c{an:An}(hk:∀s ob,k s ob->k' s ob)(h:m06 P Shp V an o ev blk k):m06 P Shp V an o ev blk k':=by
 revert h; unfold m06
 split
 . unfold M04; repeat' split
   all_goals first
    | (intro h; exact h.elim)
    | (intro h; exact hk _ _ h)
 . unfold C07; repeat' split
   all_goals first
    | (intro h; exact h.elim)
    | (intro h; exact h.2.elim)
    | (intro h; exact hk _ _ h)
    | (intro h; exact⟨h.1,hk _ _ h.2⟩)
 . unfold m05; repeat' split
   all_goals first
    | (intro h; exact h.elim)
    | (intro h; exact hk _ _ h)
    | (rintro⟨x,hx,h⟩; exact⟨x,hx,hk _ _ h⟩)
    | (rintro⟨x,hx,h⟩
       refine⟨x,hx,?_⟩
       revert h
       split
       . split
         . exact hk _ _
         . exact id
       . exact id)
 . unfold n05; repeat' split
   all_goals first
    | (intro h; exact h.elim)
    | (rintro⟨x,hx,h⟩; exact⟨x,hx,hk _ _ h⟩)
    | (rintro⟨x,hx,hs,h1,h⟩; exact⟨x,hx,hs,h1,hk _ _ h⟩)
    | (rintro⟨x,hx,hs,h⟩
       refine⟨x,hx,hs,?_⟩
       revert h
       split
       . split
         . exact hk _ _
         . exact id
       . exact id)
 . unfold Y04; repeat' split
   all_goals first
    | (intro h; exact h.elim)
    | (intro h; exact hk _ _ h)
    | (intro h; exact⟨h.1,hk _ _ h.2⟩)
 . unfold s03; repeat' split
   all_goals first
    | (intro h; exact h.elim)
    | (intro h; exact hk _ _ h)
    | (intro h; exact⟨h.1,hk _ _ h.2⟩)
 . unfold o05; repeat' split
   all_goals first
    | (intro h; exact h.elim)
    | (intro h; exact⟨h.1,hk _ _ h.2⟩)
    | (rintro⟨x,hx,h⟩; exact⟨x,hx,hk _ _ h⟩)
    | (rintro⟨h0,x,hx,h⟩
       refine⟨h0,x,hx,?_⟩
       revert h
       split
       . split
         . exact hk _ _
         . exact id
       . exact id)
 . unfold p05; repeat' split
   all_goals first
    | (intro h; exact h.elim)
    | (rintro⟨vs,h1,h2,h3,h4,h5,h⟩; exact⟨vs,h1,h2,h3,h4,h5,hk _ _ h⟩)
 . unfold l06; repeat' split
   all_goals first
    | (intro h; exact h.elim)
    | (rintro⟨x,hx,h⟩; exact⟨x,hx,hk _ _ h⟩)
    | (rintro⟨x,hx,hs,h⟩
       refine⟨x,hx,hs,?_⟩
       revert h
       split
       . split
         . exact hk _ _
         . exact id
       . exact id)
 . unfold K05; repeat' split
   all_goals first
    | (intro h; exact h.elim)
    | (rintro⟨b,off,cs,h0,h1,h2,h⟩; exact⟨b,off,cs,h0,h1,h2,hk _ _ h⟩)
 . split
   . exact z06 (λs=>O0i (λs=>hk s _))
   . exact id
 . unfold A0a; repeat' split
   all_goals first
    | (intro h; exact h.elim)
    | (intro h; exact hk _ _ h)
 . split
   . exact z06 (λs=>hk s _)
   . exact id
 . split
   . exact z06 (λs=>hk s _)
   . exact id
theorem U0n{an:An}{V':View}(hV:V.le V')(h:m06 P Shp V an o ev blk k):m06 P Shp V' an o ev blk k:=by
 revert h; unfold m06
 split
 . exact id
 . exact id
 . exact id
 . unfold n05; repeat' split
   all_goals first
    | exact id
    | (rintro⟨x,hx,h⟩; exact⟨x,q03 hV hx,h⟩)
    | (rintro⟨x,hx,hs,h⟩; exact⟨x,g07 hV hx,hs,h⟩)
 . exact id
 . exact id
 . exact id
 . unfold p05; repeat' split
   all_goals first
    | exact id
    | (rintro⟨vs,h1,h2,h3,h4,h5,h⟩; exact⟨vs,g07 hV h1,h2,h3,h4,h5,h⟩)
 . unfold l06; repeat' split
   all_goals first
    | exact id
    | (rintro⟨x,hx,h⟩; exact⟨x,O0s hV hx,h⟩)
    | (rintro⟨x,hx,hs,h⟩; exact⟨x,e09 hV hx,hs,h⟩)
 . exact id
 . split<;>exact id
 . exact id
 . split<;>exact id
 . split<;>exact id
theorem W0n{an:An}{b:Option OB}(h3:an.fl≠3)(h6:an.fl≠6)(h16:an.fl≠16)(h23:an.fl≠23)(h:m06 P Shp V an o ev (some b) k):m06 P Shp V an o ev (some b) (λs ob=>ob=b/\k s ob):=by
 revert h; unfold m06
 split
 . unfold M04; repeat' split
   all_goals first
    | (intro h; exact h.elim)
    | (intro h; simp_all; done)
 . contradiction
 . unfold m05; repeat' split
   all_goals first
    | (intro h; exact h.elim)
    | (intro h; simp_all; done)
    | (rintro⟨x,hx,h⟩; refine⟨x,hx,?_⟩; simp_all; done)
    | (rintro⟨x,hx,h⟩
       refine⟨x,hx,?_⟩
       revert h
       split
       . split
         . intro h; simp_all
         . exact id
       . exact id)
 . unfold n05; repeat' split
   all_goals first
    | (intro h; exact h.elim)
    | (rintro⟨x,hx,h⟩; refine⟨x,hx,?_⟩; simp_all; done)
    | (rintro⟨x,hx,hs,h1,h⟩; refine⟨x,hx,hs,h1,?_⟩; simp_all; done)
    | (rintro⟨x,hx,hs,h⟩
       refine⟨x,hx,hs,?_⟩
       revert h
       split
       . split
         . intro h; simp_all
         . exact id
       . exact id)
 . contradiction
 . unfold s03; repeat' split
   all_goals first
    | (intro h; exact h.elim)
    | (intro h; simp_all; done)
 . unfold o05; repeat' split
   all_goals first
    | (intro h; exact h.elim)
    | (intro h; simp_all; done)
    | (rintro⟨x,hx,h⟩; refine⟨x,hx,?_⟩; simp_all; done)
 . contradiction
 . unfold l06; repeat' split
   all_goals first
    | (intro h; exact h.elim)
    | (rintro⟨x,hx,h⟩; refine⟨x,hx,?_⟩; simp_all; done)
    | (rintro⟨x,hx,hs,h⟩
       refine⟨x,hx,hs,?_⟩
       revert h
       split
       . split
         . intro h; simp_all
         . exact id
       . exact id)
 . contradiction
 . exact z06 (λs=>O0i (λs h=>⟨rfl,h⟩))
 . unfold A0a; repeat' split
   all_goals first
    | (intro h; exact h.elim)
    | (intro h; simp_all; done)
 . exact z06 (λs h=>⟨rfl,h⟩)
 . exact z06 (λs h=>⟨rfl,h⟩)
end laws
section congr
variable {P:Program} {Shp:k03} {V:View} {rt:Nat} {o:Oper} {ev ev':Operand->SV} {blk:Option (Option OB)} {k:SV->Option OB->Prop}
theorem k0c{α:Type}{p q:α->Bool}:∀ {l:List α},(∀x∈l,p x=q x)->l.all p=l.all q
 | [],_=>rfl
 | x::l,h=>by simp[h x (by simp),k0c (l:=l) (λy hy=>h y (by simp[hy]))]
theorem X0d{fl:Nat}{k:SV->Prop}(hev:∀x∈o.op.operands,ev x=ev' x)(h:gen P fl o ev k):gen P fl o ev' k:=by
 have h1:o.op.operands.toList.all (λx=>(ev x).asVal.isSome)=o.op.operands.toList.all (λx=>(ev' x).asVal.isSome) :=
  k0c λx hx=>by rw[hev x (by simpa using hx)]
 cases hs:X0a o.op with
 | true=>unfold gen at h; rw[hs]at h; exact h.elim
 | false =>
   have h2:execOp (rho ev) o=execOp (rho ev') o :=
    execOp_congr o (by intro cs b e; rw[e]at hs; simp[X0a]at hs) (λx hx=>by simp[rho,hev x hx])
   unfold gen at h ⊢
   rw[<-h1,<-h2]; exact h
theorem X0n(hev:∀x∈o.op.operands,ev x=ev' x)(h:M04 P Shp V rt o ev blk k):M04 P Shp V rt o ev' blk k:=by
 revert h; unfold M04
 split
 . rename_i x hop; rw[hev x (by simp[hop,Op.operands])]; exact id
 . rename_i x hop; rw[hev x (by simp[hop,Op.operands])]; exact id
 . rename_i c x y hop; rw[hev c (by simp[hop,Op.operands]),hev x (by simp[hop,Op.operands]),hev y (by simp[hop,Op.operands])]; exact id
 . rename_i x i hop; rw[hev x (by simp[hop,Op.operands])]; exact id
 . exact id
theorem O05{o:Oper}{ev ev':Operand->SV}(hev:∀x∈o.op.operands,ev x=ev' x):Y0a P o ev=Y0a P o ev':=by
 unfold Y0a
 split
 . rename_i t n parts hop
   have hp:∀p∈parts.toList,ev p.2=ev' p.2:=λp hp=>hev p.2 (by simp[hop,Op.operands]; exact⟨p.1,by simpa using hp⟩)
   have h1:parts.toList.all (λp=>(ev p.2).asVal.isSome)=parts.toList.all (λp=>(ev' p.2).asVal.isSome):=k0c λp h=>by rw[hp p h]
   have h2:(parts.toList.map λp=>(p.1,rho ev p.2))=parts.toList.map λp=>(p.1,rho ev' p.2):=List.map_congr_left λp h=>by simp[rho,hp p h]
   rw[h1,h2]
 . rfl
theorem b0q(hev:∀x∈o.op.operands,ev x=ev' x)(h:C07 P Shp V rt o ev blk k):C07 P Shp V rt o ev' blk k:=by
 revert h; unfold C07
 split
 . exact id
 . rename_i t x hop; rw[hev x (by simp[hop,Op.operands])]; exact id
 . rename_i t n c hop; rw[hev n (by simp[hop,Op.operands]),hev c (by simp[hop,Op.operands])]; exact id
 . rename_i t n parts hop; rw[O05 hev]; exact id
 . exact id
theorem Y0n(hev:∀x∈o.op.operands,ev x=ev' x)(h:m05 P Shp V rt o ev blk k):m05 P Shp V rt o ev' blk k:=by
 revert h; unfold m05
 split
 . rename_i t p ob hop; rw[hev p (by simp[hop,Op.operands])]; exact id
 . exact id
theorem c0q(hev:∀x∈o.op.operands,ev x=ev' x)(h:n05 P Shp V rt o ev blk k):n05 P Shp V rt o ev' blk k:=by
 revert h; unfold n05
 split
 . rename_i t p b hop; rw[hev p (by simp[hop,Op.operands])]; exact id
 . rename_i src dst x b hop; rw[hev x (by simp[hop,Op.operands])]; exact id
 . exact id
theorem e0l(hev:∀x∈o.op.operands,ev x=ev' x)(h:Y04 P Shp V rt o ev blk k):Y04 P Shp V rt o ev' blk k:=by
 revert h; unfold Y04
 split
 . rename_i t p x ob hop; rw[hev p (by simp[hop,Op.operands]),hev x (by simp[hop,Op.operands])]; exact id
 . exact id
theorem d0q(hev:∀x∈o.op.operands,ev x=ev' x)(h:l06 P Shp V rt o ev blk k):l06 P Shp V rt o ev' blk k:=by
 revert h; unfold l06
 split
 . rename_i t p ty m hop; rw[hev p (by simp[hop,Op.operands])]; exact id
 . exact id
theorem Z0n(hev:∀x∈o.op.operands,ev x=ev' x)(h:K05 P Shp V rt o ev blk k):K05 P Shp V rt o ev' blk k:=by
 revert h; unfold K05
 split
 . rename_i t p x ty m hop; rw[hev p (by simp[hop,Op.operands]),hev x (by simp[hop,Op.operands])]; exact id
 . exact id
theorem f0l(hev:∀x∈o.op.operands,ev x=ev' x)(h:s03 P Shp V rt o ev blk k):s03 P Shp V rt o ev' blk k:=by
 revert h; unfold s03
 split
 . rename_i s p f b hop; rw[hev p (by simp[hop,Op.operands])]; exact id
 . rename_i t x i b hop; rw[hev x (by simp[hop,Op.operands]),hev i (by simp[hop,Op.operands])]; exact id
 . rename_i t x lo hi mx b hop
   rw[hev x (by simp[hop,Op.operands])]
   cases lo with
   | none => cases hi with
     | none=>exact id
     | some y=>simp only[hev y (by simp[hop,Op.operands])]; exact id
   | some z => cases hi with
     | none=>simp only[hev z (by simp[hop,Op.operands])]; exact id
     | some y=>simp only[hev y (by simp[hop,Op.operands]),hev z (by simp[hop,Op.operands])]; exact id
 . rename_i c b hop
   split
   . rename_i x t hcal hargs htys
     rw[hev x (by
      have:x∈c.args.toList:=by rw[hargs]; simp
      simp only[hop,Op.operands,Call.operands]
      simp at this
      simp[this])]
     exact id
   . exact id
 . rename_i f first caps b hop
   split
   . rename_i p hf hc
     rw[hev p (by
      have:p∈caps.toList:=by rw[hc]; simp
      simp at this
      simp[hop,Op.operands,this])]
     exact id
   . exact id
 . exact id
theorem A06{ev ev':Operand->SV}:∀ {l:List Operand},(∀x∈l,ev x=ev' x)->k06 ev l=k06 ev' l
 | [],_=>rfl
 | x::l,h=>by simp[k06,h x (by simp),A06 (l:=l) (λy hy=>h y (by simp[hy]))]
theorem a0o(hev:∀x∈o.op.operands,ev x=ev' x)(h:o05 P Shp V rt o ev blk k):o05 P Shp V rt o ev' blk k:=by
 revert h; unfold o05
 split
 . exact id
 . split
   . rename_i op t x y yt hop
     rw[hev x (by simp[hop,Op.operands]),hev y (by simp[hop,Op.operands])]; exact id
   . rename_i c hop
     have hc:∀x∈c.args.toList,ev x=ev' x:=λx hx=>hev x (by
      simp only[hop,Op.operands,Call.operands]
      simp at hx
      simp[hx])
     split
     . rename_i x y hcal hargs
       rw[hargs]at hc
       rw[hc x (by simp),hc y (by simp)]; exact id
     . rename_i x y hcal hargs
       rw[hargs]at hc
       rw[hc x (by simp),hc y (by simp)]; exact id
     . rw[A06 hc]; exact id
     . exact id
   . rename_i t x ix hop
     rw[hev x (by simp[hop,Op.operands]),hev ix (by simp[hop,Op.operands])]; exact id
   . rename_i t x lo hi mx hop
     rw[hev x (by simp[hop,Op.operands]),hev mx (by simp[hop,Op.operands])]
     cases lo with
     | none => cases hi with
       | none=>exact id
       | some y=>simp only[hev y (by simp[hop,Op.operands])]; exact id
     | some z => cases hi with
       | none=>simp only[hev z (by simp[hop,Op.operands])]; exact id
       | some y=>simp only[hev y (by simp[hop,Op.operands]),hev z (by simp[hop,Op.operands])]; exact id
   . exact id
theorem b0o(hev:∀x∈o.op.operands,ev x=ev' x)(h:p05 P Shp V rt o ev blk k):p05 P Shp V rt o ev' blk k:=by
 revert h; unfold p05
 split
 . rename_i c ob hop
   have hc:∀x∈c.args.toList,ev x=ev' x:=λx hx=>hev x (by
    simp only[hop,Op.operands,Call.operands]
    simp at hx
    simp[hx])
   split
   . rename_i x y t t2 hcal hargs htys
     rw[hargs]at hc
     rw[hc x (by simp),hc y (by simp)]; exact id
   . exact id
 . exact id
theorem g0l{an:An}(hev:∀x∈o.op.operands,ev x=ev' x)(h:m06 P Shp V an o ev blk k):m06 P Shp V an o ev' blk k:=by
 revert h; unfold m06
 split
 . exact X0n hev
 . exact b0q hev
 . exact Y0n hev
 . exact c0q hev
 . exact e0l hev
 . exact f0l hev
 . exact a0o hev
 . exact b0o hev
 . exact d0q hev
 . exact Z0n hev
 . split
   . exact X0d hev
   . exact id
 . unfold A0a; split
   . rename_i t x b hop; rw[hev x (by simp[hop,Op.operands])]; exact id
   . rename_i c x y b hop; rw[hev c (by simp[hop,Op.operands]),hev x (by simp[hop,Op.operands]),hev y (by simp[hop,Op.operands])]; exact id
   . exact id
 . split
   . exact X0d hev
   . exact id
 . split
   . exact X0d hev
   . exact id
end congr
