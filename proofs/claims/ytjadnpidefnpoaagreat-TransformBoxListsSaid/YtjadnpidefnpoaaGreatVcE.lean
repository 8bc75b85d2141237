/- Part. -/
import Derived.Test.YtjadnpidefnpoaaGreatVcD
namespace Go.Vc
open Go Go.RowKit
section laws
variable {P:Program} {Shp:m05} {V:View} {rt:Nat} {o:Oper} {ev:Operand->SV} {blk:Option (Option OB)} {k k':SV->Option OB->Prop}
theorem p0z{fl:Nat}{k:SV->Prop}(h:gen P fl o ev k):∃s,k s/\gen P fl o ev (λs'=>s'=s):=by
 revert h; unfold gen
 split
 . split
   . intro h; exact⟨_,h,rfl⟩
   . intro h; exact h.elim
 . rintro⟨v,hv,h⟩; exact⟨_,h,v,hv,rfl⟩
 . intro h; exact h.elim
theorem D0a{fl:Nat}{k k':SV->Prop}(hk:∀s,k s->k' s)(h:gen P fl o ev k):gen P fl o ev k':=by
 revert h; unfold gen
 split
 . split
   . intro h; exact hk _ h
   . intro h; exact h.elim
 . rintro⟨v,hv,h⟩; exact⟨v,hv,hk _ h⟩
 . intro h; exact h.elim
theorem W14{b:Option OB}{s:SV}(h:litK b k s):∃s' ob,k s' ob/\litK b (λs2 ob2=>s2=s'/\ob2=ob) s:=by
 unfold litK at h
 split at h
 . exact⟨_,_,h,rfl,rfl⟩
 . exact⟨_,_,h,rfl,rfl⟩
 . exact h.elim
theorem F0r{b:Option OB}{k k':SV->Option OB->Prop}(hk:∀s,k s b->k' s b){s:SV}(h:litK b k s):litK b k' s:=by
 unfold litK at h
 split at h
 . exact hk _ h
 . exact hk _ h
 . exact h.elim
theorem X14(h:D07 P Shp V rt o ev blk k):∃s ob,k s ob/\D07 P Shp V rt o ev blk (λs' ob'=>s'=s/\ob'=ob):=by
 revert h; unfold D07
 repeat' split
 all_goals first
  | (intro h; exact h.elim)
  | (intro h; exact⟨_,_,h,rfl,rfl⟩)
theorem j16(h:U0c P Shp V rt o ev blk k):∃s ob,k s ob/\U0c P Shp V rt o ev blk (λs' ob'=>s'=s/\ob'=ob):=by
 revert h; unfold U0c
 repeat' split
 all_goals first
  | (intro h; exact h.elim)
  | (intro h; exact h.2.elim)
  | (intro h; exact⟨_,_,h,rfl,rfl⟩)
  | (intro h; exact⟨_,_,h.2,h.1,rfl,rfl⟩)
theorem Y14(h:D08 P Shp V rt o ev blk k):∃s ob,k s ob/\D08 P Shp V rt o ev blk (λs' ob'=>s'=s/\ob'=ob):=by
 revert h; unfold D08
 repeat' split
 all_goals first
  | (intro h; exact h.elim)
  | (intro h; exact⟨_,_,h,rfl,rfl⟩)
  | (rintro⟨x,hx,h⟩; exact⟨_,_,h,x,hx,rfl,rfl⟩)
  | (rintro⟨x,hx,h⟩
     split at h
     . rename_i hv
       split at h
       . rename_i hb
         exact⟨_,_,h,x,hx,by rw[hv]; simp[hb]⟩
       . exact h.elim
     . exact h.elim)
theorem k16(h:E08 P Shp V rt o ev blk k):∃s ob,k s ob/\E08 P Shp V rt o ev blk (λs' ob'=>s'=s/\ob'=ob):=by
 revert h; unfold E08
 repeat' split
 all_goals first
  | (intro h; exact h.elim)
  | (rintro⟨x,hx,h⟩; exact⟨_,_,h,x,hx,rfl,rfl⟩)
  | (rintro⟨x,hx,hs,h1,h⟩; exact⟨_,_,h,x,hx,hs,h1,rfl,rfl⟩)
  | (rintro⟨x,hx,hs,h⟩
     split at h
     . rename_i hv
       split at h
       . rename_i hb
         exact⟨_,_,h,x,hx,hs,by rw[hv]; simp[hb]⟩
       . exact h.elim
     . exact h.elim)
theorem m16(h:p0a P Shp V rt o ev blk k):∃s ob,k s ob/\p0a P Shp V rt o ev blk (λs' ob'=>s'=s/\ob'=ob):=by
 revert h; unfold p0a
 repeat' split
 all_goals first
  | (intro h; exact h.elim)
  | (rintro⟨x,hx,h⟩; exact⟨_,_,h,x,hx,rfl,rfl⟩)
  | (rintro⟨x,hx,hs,h1,h⟩; exact⟨_,_,h,x,hx,hs,h1,rfl,rfl⟩)
  | (rintro⟨x,hx,hs,h⟩
     split at h
     . rename_i hv
       split at h
       . rename_i hb
         exact⟨_,_,h,x,hx,hs,by rw[hv]; simp[hb]⟩
       . exact h.elim
     . exact h.elim)
theorem Z14(h:u09 P Shp V rt o ev blk k):∃s ob,k s ob/\u09 P Shp V rt o ev blk (λs' ob'=>s'=s/\ob'=ob):=by
 revert h; unfold u09
 repeat' split
 all_goals first
  | (intro h; exact h.elim)
  | (rintro⟨b,off,cs,h0,h1,h2,h⟩; exact⟨_,_,h,b,off,cs,h0,h1,h2,rfl,rfl⟩)
theorem P12(h:M07 P Shp V rt o ev blk k):∃s ob,k s ob/\M07 P Shp V rt o ev blk (λs' ob'=>s'=s/\ob'=ob):=by
 revert h; unfold M07
 repeat' split
 all_goals first
  | (intro h; exact h.elim)
  | (intro h; exact⟨_,_,h,rfl,rfl⟩)
  | (intro h; exact⟨_,_,h.2,h.1,rfl,rfl⟩)
theorem Q12(h:E05 P Shp V rt o ev blk k):∃s ob,k s ob/\E05 P Shp V rt o ev blk (λs' ob'=>s'=s/\ob'=ob):=by
 revert h; unfold E05
 repeat' split
 all_goals first
  | (intro h; exact h.elim)
  | (intro h; exact⟨_,_,h,rfl,rfl⟩)
  | (intro h; exact⟨_,_,h.2,h.1,rfl,rfl⟩)
theorem a15(h:F08 P Shp V rt o ev blk k):∃s ob,k s ob/\F08 P Shp V rt o ev blk (λs' ob'=>s'=s/\ob'=ob):=by
 revert h; unfold F08
 repeat' split
 all_goals first
  | (intro h; exact h.elim)
  | (intro h; exact⟨_,_,h.2,h.1,rfl,rfl⟩)
  | (rintro⟨x,hx,h⟩; exact⟨_,_,h,x,hx,rfl,rfl⟩)
  | (rintro⟨h0,x,hx,h⟩
     split at h
     . rename_i hv
       split at h
       . rename_i hb
         exact⟨_,_,h,h0,x,hx,by rw[hv]; simp[hb]⟩
       . exact h.elim
     . exact h.elim)
theorem b15(h:G08 P Shp V rt o ev blk k):∃s ob,k s ob/\G08 P Shp V rt o ev blk (λs' ob'=>s'=s/\ob'=ob):=by
 revert h; unfold G08
 repeat' split
 all_goals first
  | (intro h; exact h.elim)
  | (rintro⟨vs,h1,h2,h3,h4,h5,h⟩; exact⟨_,_,h,vs,h1,h2,h3,h4,h5,rfl,rfl⟩)
theorem G0v{an:An}(h:q0a P Shp V an o ev blk k):∃s ob,k s ob/\q0a P Shp V an o ev blk (λs' ob'=>s'=s/\ob'=ob):=by
 revert h; unfold q0a
 split
 . exact X14
 . exact j16
 . exact Y14
 . exact k16
 . exact P12
 . exact Q12
 . exact a15
 . exact b15
 . exact m16
 . exact Z14
 . split
   . intro h; obtain⟨s,hk,hg⟩:=p0z h
     obtain⟨s',ob,hk',hl⟩:=W14 hk
     exact⟨s',ob,hk',D0a (λs2 e=>by rw[e]; exact hl) hg⟩
   . intro h; exact h.elim
 . unfold c0h
   repeat' split
   all_goals first
    | (intro h; exact h.elim)
    | (intro h; exact⟨_,_,h,rfl,rfl⟩)
 . split
   . intro h; obtain⟨s,hk,hg⟩:=p0z h; exact⟨s,_,hk,D0a (λs' e=>⟨e,rfl⟩) hg⟩
   . intro h; exact h.elim
 . split
   . intro h; obtain⟨s,hk,hg⟩:=p0z h; exact⟨s,_,hk,D0a (λs' e=>⟨e,rfl⟩) hg⟩
   . intro h; exact h.elim
theorem i0j{an:An}(hk:∀s ob,k s ob->k' s ob)(h:q0a P Shp V an o ev blk k):q0a P Shp V an o ev blk k':=by
 revert h; unfold q0a
 split
 . unfold D07; repeat' split
   all_goals first
    | (intro h; exact h.elim)
    | (intro h; exact hk _ _ h)
 . unfold U0c; repeat' split
   all_goals first
    | (intro h; exact h.elim)
    | (intro h; exact h.2.elim)
    | (intro h; exact hk _ _ h)
    | (intro h; exact⟨h.1,hk _ _ h.2⟩)
 . unfold D08; repeat' split
   all_goals first
    | (intro h; exact h.elim)
    | (intro h; exact hk _ _ h)
    | (rintro⟨x,hx,h⟩; exact⟨x,hx,hk _ _ h⟩)
    | (rintro⟨x,hx,h⟩
       refine⟨x,hx,?_⟩
       revert h
       split
       . split
         . exact hk _ _
         . exact id
       . exact id)
 . unfold E08; repeat' split
   all_goals first
    | (intro h; exact h.elim)
    | (rintro⟨x,hx,h⟩; exact⟨x,hx,hk _ _ h⟩)
    | (rintro⟨x,hx,hs,h1,h⟩; exact⟨x,hx,hs,h1,hk _ _ h⟩)
    | (rintro⟨x,hx,hs,h⟩
       refine⟨x,hx,hs,?_⟩
       revert h
       split
       . split
         . exact hk _ _
         . exact id
       . exact id)
 . unfold M07; repeat' split
   all_goals first
    | (intro h; exact h.elim)
    | (intro h; exact hk _ _ h)
    | (intro h; exact⟨h.1,hk _ _ h.2⟩)
 . unfold E05; repeat' split
   all_goals first
    | (intro h; exact h.elim)
    | (intro h; exact hk _ _ h)
    | (intro h; exact⟨h.1,hk _ _ h.2⟩)
 . unfold F08; repeat' split
   all_goals first
    | (intro h; exact h.elim)
    | (intro h; exact⟨h.1,hk _ _ h.2⟩)
    | (rintro⟨x,hx,h⟩; exact⟨x,hx,hk _ _ h⟩)
    | (rintro⟨h0,x,hx,h⟩
       refine⟨h0,x,hx,?_⟩
       revert h
       split
       . split
         . exact hk _ _
         . exact id
       . exact id)
 . unfold G08; repeat' split
   all_goals first
    | (intro h; exact h.elim)
    | (rintro⟨vs,h1,h2,h3,h4,h5,h⟩; exact⟨vs,h1,h2,h3,h4,h5,hk _ _ h⟩)
 . unfold p0a; repeat' split
   all_goals first
    | (intro h; exact h.elim)
    | (rintro⟨x,hx,h⟩; exact⟨x,hx,hk _ _ h⟩)
    | (rintro⟨x,hx,hs,h⟩
       refine⟨x,hx,hs,?_⟩
       revert h
       split
       . split
         . exact hk _ _
         . exact id
       . exact id)
 . unfold u09; repeat' split
   all_goals first
    | (intro h; exact h.elim)
    | (rintro⟨b,off,cs,h0,h1,h2,h⟩; exact⟨b,off,cs,h0,h1,h2,hk _ _ h⟩)
 . split
   . exact D0a (λs=>F0r (λs=>hk s _))
   . exact id
 . unfold c0h; repeat' split
   all_goals first
    | (intro h; exact h.elim)
    | (intro h; exact hk _ _ h)
 . split
   . exact D0a (λs=>hk s _)
   . exact id
 . split
   . exact D0a (λs=>hk s _)
   . exact id
theorem T0w{an:An}{V':View}(hV:V.le V')(h:q0a P Shp V an o ev blk k):q0a P Shp V' an o ev blk k:=by
 revert h; unfold q0a
 split
 . exact id
 . exact id
 . exact id
 . unfold E08; repeat' split
   all_goals first
    | exact id
    | (rintro⟨x,hx,h⟩; exact⟨x,H01 hV hx,h⟩)
    | (rintro⟨x,hx,hs,h⟩; exact⟨x,q08 hV hx,hs,h⟩)
 . exact id
 . exact id
 . exact id
 . unfold G08; repeat' split
   all_goals first
    | exact id
    | (rintro⟨vs,h1,h2,h3,h4,h5,h⟩; exact⟨vs,q08 hV h1,h2,h3,h4,h5,h⟩)
 . unfold p0a; repeat' split
   all_goals first
    | exact id
    | (rintro⟨x,hx,h⟩; exact⟨x,K12 hV hx,h⟩)
    | (rintro⟨x,hx,hs,h⟩; exact⟨x,Q14 hV hx,hs,h⟩)
 . exact id
 . split<;>exact id
 . exact id
 . split<;>exact id
 . split<;>exact id
theorem U0w{an:An}{b:Option OB}(h3:an.fl≠3)(h6:an.fl≠6)(h16:an.fl≠16)(h23:an.fl≠23)(h:q0a P Shp V an o ev (some b) k):q0a P Shp V an o ev (some b) (λs ob=>ob=b/\k s ob):=by
 revert h; unfold q0a
 split
 . unfold D07; repeat' split
   all_goals first
    | (intro h; exact h.elim)
    | (intro h; simp_all; done)
 . contradiction
 . unfold D08; repeat' split
   all_goals first
    | (intro h; exact h.elim)
    | (intro h; simp_all; done)
    | (rintro⟨x,hx,h⟩; refine⟨x,hx,?_⟩; simp_all; done)
    | (rintro⟨x,hx,h⟩
       refine⟨x,hx,?_⟩
       revert h
       split
       . split
         . intro h; simp_all
         . exact id
       . exact id)
 . unfold E08; repeat' split
   all_goals first
    | (intro h; exact h.elim)
    | (rintro⟨x,hx,h⟩; refine⟨x,hx,?_⟩; simp_all; done)
    | (rintro⟨x,hx,hs,h1,h⟩; refine⟨x,hx,hs,h1,?_⟩; simp_all; done)
    | (rintro⟨x,hx,hs,h⟩
       refine⟨x,hx,hs,?_⟩
       revert h
       split
       . split
         . intro h; simp_all
         . exact id
       . exact id)
 . contradiction
 . unfold E05; repeat' split
   all_goals first
    | (intro h; exact h.elim)
    | (intro h; simp_all; done)
 . unfold F08; repeat' split
   all_goals first
    | (intro h; exact h.elim)
    | (intro h; simp_all; done)
    | (rintro⟨x,hx,h⟩; refine⟨x,hx,?_⟩; simp_all; done)
 . contradiction
 . unfold p0a; repeat' split
   all_goals first
    | (intro h; exact h.elim)
    | (rintro⟨x,hx,h⟩; refine⟨x,hx,?_⟩; simp_all; done)
    | (rintro⟨x,hx,hs,h⟩
       refine⟨x,hx,hs,?_⟩
       revert h
       split
       . split
         . intro h; simp_all
         . exact id
       . exact id)
 . contradiction
 . exact D0a (λs=>F0r (λs h=>⟨rfl,h⟩))
 . unfold c0h; repeat' split
   all_goals first
    | (intro h; exact h.elim)
    | (intro h; simp_all; done)
 . exact D0a (λs h=>⟨rfl,h⟩)
 . exact D0a (λs h=>⟨rfl,h⟩)
end laws
section congr
variable {P:Program} {Shp:m05} {V:View} {rt:Nat} {o:Oper} {ev ev':Operand->SV} {blk:Option (Option OB)} {k:SV->Option OB->Prop}
theorem j0j{α:Type}{p q:α->Bool}:∀ {l:List α},(∀x∈l,p x=q x)->l.all p=l.all q
 | [],_=>rfl
 | x::l,h=>by simp[h x (by simp),j0j (l:=l) (λy hy=>h y (by simp[hy]))]
theorem s0l{fl:Nat}{k:SV->Prop}(hev:∀x∈o.op.operands,ev x=ev' x)(h:gen P fl o ev k):gen P fl o ev' k:=by
 have h1:o.op.operands.toList.all (λx=>(ev x).asVal.isSome)=o.op.operands.toList.all (λx=>(ev' x).asVal.isSome) :=
  j0j λx hx=>by rw[hev x (by simpa using hx)]
 cases hs:F0h o.op with
 | true=>unfold gen at h; rw[hs]at h; exact h.elim
 | false =>
   have h2:execOp (rho ev) o=execOp (rho ev') o :=
    execOp_congr o (by intro cs b e; rw[e]at hs; simp[F0h]at hs) (λx hx=>by simp[rho,hev x hx])
   unfold gen at h ⊢
   rw[<-h1,<-h2]; exact h
theorem W0w(hev:∀x∈o.op.operands,ev x=ev' x)(h:D07 P Shp V rt o ev blk k):D07 P Shp V rt o ev' blk k:=by
 revert h; unfold D07
 split
 . rename_i x hop; rw[hev x (by simp[hop,Op.operands])]; exact id
 . rename_i x hop; rw[hev x (by simp[hop,Op.operands])]; exact id
 . rename_i c x y hop; rw[hev c (by simp[hop,Op.operands]),hev x (by simp[hop,Op.operands]),hev y (by simp[hop,Op.operands])]; exact id
 . rename_i x i hop; rw[hev x (by simp[hop,Op.operands])]; exact id
 . exact id
theorem M09{o:Oper}{ev ev':Operand->SV}(hev:∀x∈o.op.operands,ev x=ev' x):G0h P o ev=G0h P o ev':=by
 unfold G0h
 split
 . rename_i t n parts hop
   have hp:∀p∈parts.toList,ev p.2=ev' p.2:=λp hp=>hev p.2 (by simp[hop,Op.operands]; exact⟨p.1,by simpa using hp⟩)
   have h1:parts.toList.all (λp=>(ev p.2).asVal.isSome)=parts.toList.all (λp=>(ev' p.2).asVal.isSome):=j0j λp h=>by rw[hp p h]
   have h2:(parts.toList.map λp=>(p.1,rho ev p.2))=parts.toList.map λp=>(p.1,rho ev' p.2):=List.map_congr_left λp h=>by simp[rho,hp p h]
   rw[h1,h2]
 . rfl
theorem q0z(hev:∀x∈o.op.operands,ev x=ev' x)(h:U0c P Shp V rt o ev blk k):U0c P Shp V rt o ev' blk k:=by
 revert h; unfold U0c
 split
 . exact id
 . rename_i t x hop; rw[hev x (by simp[hop,Op.operands])]; exact id
 . rename_i t n c hop; rw[hev n (by simp[hop,Op.operands]),hev c (by simp[hop,Op.operands])]; exact id
 . rename_i t n parts hop; rw[M09 hev]; exact id
 . exact id
theorem X0w(hev:∀x∈o.op.operands,ev x=ev' x)(h:D08 P Shp V rt o ev blk k):D08 P Shp V rt o ev' blk k:=by
 revert h; unfold D08
 split
 . rename_i t p ob hop; rw[hev p (by simp[hop,Op.operands])]; exact id
 . exact id
theorem s0z(hev:∀x∈o.op.operands,ev x=ev' x)(h:E08 P Shp V rt o ev blk k):E08 P Shp V rt o ev' blk k:=by
 revert h; unfold E08
 split
 . rename_i t p b hop; rw[hev p (by simp[hop,Op.operands])]; exact id
 . rename_i src dst x b hop; rw[hev x (by simp[hop,Op.operands])]; exact id
 . exact id
theorem W0t(hev:∀x∈o.op.operands,ev x=ev' x)(h:M07 P Shp V rt o ev blk k):M07 P Shp V rt o ev' blk k:=by
 revert h; unfold M07
 split
 . rename_i t p x ob hop; rw[hev p (by simp[hop,Op.operands]),hev x (by simp[hop,Op.operands])]; exact id
 . exact id
theorem t0z(hev:∀x∈o.op.operands,ev x=ev' x)(h:p0a P Shp V rt o ev blk k):p0a P Shp V rt o ev' blk k:=by
 revert h; unfold p0a
 split
 . rename_i t p ty m hop; rw[hev p (by simp[hop,Op.operands])]; exact id
 . exact id
theorem Y0w(hev:∀x∈o.op.operands,ev x=ev' x)(h:u09 P Shp V rt o ev blk k):u09 P Shp V rt o ev' blk k:=by
 revert h; unfold u09
 split
 . rename_i t p x ty m hop; rw[hev p (by simp[hop,Op.operands]),hev x (by simp[hop,Op.operands])]; exact id
 . exact id
theorem X0t(hev:∀x∈o.op.operands,ev x=ev' x)(h:E05 P Shp V rt o ev blk k):E05 P Shp V rt o ev' blk k:=by
 revert h; unfold E05
 split
 . rename_i s p f b hop; rw[hev p (by simp[hop,Op.operands])]; exact id
 . rename_i t x i b hop; rw[hev x (by simp[hop,Op.operands]),hev i (by simp[hop,Op.operands])]; exact id
 . rename_i t x lo hi mx b hop
   rw[hev x (by simp[hop,Op.operands])]
   cases lo with
   | none => cases hi with
     | none=>exact id
     | some y=>simp only[hev y (by simp[hop,Op.operands])]; exact id
   | some z => cases hi with
     | none=>simp only[hev z (by simp[hop,Op.operands])]; exact id
     | some y=>simp only[hev y (by simp[hop,Op.operands]),hev z (by simp[hop,Op.operands])]; exact id
 . rename_i c b hop
   split
   . rename_i x t hcal hargs htys
     rw[hev x (by
      have:x∈c.args.toList:=by rw[hargs]; simp
      simp only[hop,Op.operands,Call.operands]
      simp at this
      simp[this])]
     exact id
   . exact id
 . rename_i f first caps b hop
   split
   . rename_i p hf hc
     rw[hev p (by
      have:p∈caps.toList:=by rw[hc]; simp
      simp at this
      simp[hop,Op.operands,this])]
     exact id
   . exact id
 . exact id
theorem E0a{ev ev':Operand->SV}:∀ {l:List Operand},(∀x∈l,ev x=ev' x)->o0a ev l=o0a ev' l
 | [],_=>rfl
 | x::l,h=>by simp[o0a,h x (by simp),E0a (l:=l) (λy hy=>h y (by simp[hy]))]
theorem Z0w(hev:∀x∈o.op.operands,ev x=ev' x)(h:F08 P Shp V rt o ev blk k):F08 P Shp V rt o ev' blk k:=by
 revert h; unfold F08
 split
 . exact id
 . split
   . rename_i op t x y yt hop
     rw[hev x (by simp[hop,Op.operands]),hev y (by simp[hop,Op.operands])]; exact id
   . rename_i c hop
     have hc:∀x∈c.args.toList,ev x=ev' x:=λx hx=>hev x (by
      simp only[hop,Op.operands,Call.operands]
      simp at hx
      simp[hx])
     split
     . rename_i x y hcal hargs
       rw[hargs]at hc
       rw[hc x (by simp),hc y (by simp)]; exact id
     . rename_i x y hcal hargs
       rw[hargs]at hc
       rw[hc x (by simp),hc y (by simp)]; exact id
     . rw[E0a hc]; exact id
     . exact id
   . rename_i t x ix hop
     rw[hev x (by simp[hop,Op.operands]),hev ix (by simp[hop,Op.operands])]; exact id
   . rename_i src dst x hop
     rw[hev x (by simp[hop,Op.operands])]; exact id
   . rename_i t x lo hi mx hop
     rw[hev x (by simp[hop,Op.operands]),hev mx (by simp[hop,Op.operands])]
     cases lo with
     | none => cases hi with
       | none=>exact id
       | some y=>simp only[hev y (by simp[hop,Op.operands])]; exact id
     | some z => cases hi with
       | none=>simp only[hev z (by simp[hop,Op.operands])]; exact id
       | some y=>simp only[hev y (by simp[hop,Op.operands]),hev z (by simp[hop,Op.operands])]; exact id
   . rename_i t x hop
     rw[hev x (by simp[hop,Op.operands])]; exact id
   . exact id
theorem a0x(hev:∀x∈o.op.operands,ev x=ev' x)(h:G08 P Shp V rt o ev blk k):G08 P Shp V rt o ev' blk k:=by
 revert h; unfold G08
 split
 . rename_i c ob hop
   have hc:∀x∈c.args.toList,ev x=ev' x:=λx hx=>hev x (by
    simp only[hop,Op.operands,Call.operands]
    simp at hx
    simp[hx])
   split
   . rename_i x y t t2 hcal hargs htys
     rw[hargs]at hc
     rw[hc x (by simp),hc y (by simp)]; exact id
   . exact id
 . exact id
theorem Y0t{an:An}(hev:∀x∈o.op.operands,ev x=ev' x)(h:q0a P Shp V an o ev blk k):q0a P Shp V an o ev' blk k:=by
 revert h; unfold q0a
 split
 . exact W0w hev
 . exact q0z hev
 . exact X0w hev
 . exact s0z hev
 . exact W0t hev
 . exact X0t hev
 . exact Z0w hev
 . exact a0x hev
 . exact t0z hev
 . exact Y0w hev
 . split
   . exact s0l hev
   . exact id
 . unfold c0h; split
   . rename_i t x b hop; rw[hev x (by simp[hop,Op.operands])]; exact id
   . rename_i c x y b hop; rw[hev c (by simp[hop,Op.operands]),hev x (by simp[hop,Op.operands]),hev y (by simp[hop,Op.operands])]; exact id
   . exact id
 . split
   . exact s0l hev
   . exact id
 . split
   . exact s0l hev
   . exact id
end congr
