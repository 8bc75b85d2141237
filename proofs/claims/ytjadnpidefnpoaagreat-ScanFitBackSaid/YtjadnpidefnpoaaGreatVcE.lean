/- Part. -/
import Derived.Test.YtjadnpidefnpoaaGreatVcD
namespace Go.Vc
open Go Go.RowKit
section laws
variable {P:Program} {Shp:I03} {V:View} {rt:Nat} {o:Oper} {ev:Operand->SV} {blk:Option (Option OB)} {k k':SV->Option OB->Prop}
theorem f0o{fl:Nat}{k:SV->Prop}(h:gen P fl o ev k):∃s,k s/\gen P fl o ev (λs'=>s'=s):=by
 revert h; unfold gen
 split
 . split
   . intro h; exact⟨_,h,rfl⟩
   . intro h; exact h.elim
 . rintro⟨v,hv,h⟩; exact⟨_,h,v,hv,rfl⟩
 . intro h; exact h.elim
theorem o07{fl:Nat}{k k':SV->Prop}(hk:∀s,k s->k' s)(h:gen P fl o ev k):gen P fl o ev k':=by
 revert h; unfold gen
 split
 . split
   . intro h; exact hk _ h
   . intro h; exact h.elim
 . rintro⟨v,hv,h⟩; exact⟨v,hv,hk _ h⟩
 . intro h; exact h.elim
theorem d0r{b:Option OB}{s:SV}(h:litK b k s):∃s' ob,k s' ob/\litK b (λs2 ob2=>s2=s'/\ob2=ob) s:=by
 unfold litK at h
 split at h
 . exact⟨_,_,h,rfl,rfl⟩
 . exact⟨_,_,h,rfl,rfl⟩
 . exact h.elim
theorem t0i{b:Option OB}{k k':SV->Option OB->Prop}(hk:∀s,k s b->k' s b){s:SV}(h:litK b k s):litK b k' s:=by
 unfold litK at h
 split at h
 . exact hk _ h
 . exact hk _ h
 . exact h.elim
theorem e0r(h:k05 P Shp V rt o ev blk k):∃s ob,k s ob/\k05 P Shp V rt o ev blk (λs' ob'=>s'=s/\ob'=ob):=by
 revert h; unfold k05
 repeat' split
 all_goals first
  | (intro h; exact h.elim)
  | (intro h; exact⟨_,_,h,rfl,rfl⟩)
theorem X0r(h:q08 P Shp V rt o ev blk k):∃s ob,k s ob/\q08 P Shp V rt o ev blk (λs' ob'=>s'=s/\ob'=ob):=by
 revert h; unfold q08
 repeat' split
 all_goals first
  | (intro h; exact h.elim)
  | (intro h; exact h.2.elim)
  | (intro h; exact⟨_,_,h,rfl,rfl⟩)
  | (intro h; exact⟨_,_,h.2,h.1,rfl,rfl⟩)
theorem f0r(h:S05 P Shp V rt o ev blk k):∃s ob,k s ob/\S05 P Shp V rt o ev blk (λs' ob'=>s'=s/\ob'=ob):=by
 revert h; unfold S05
 repeat' split
 all_goals first
  | (intro h; exact h.elim)
  | (intro h; exact⟨_,_,h,rfl,rfl⟩)
  | (rintro⟨x,hx,h⟩; exact⟨_,_,h,x,hx,rfl,rfl⟩)
  | (rintro⟨x,hx,h⟩
     split at h
     . rename_i hv
       split at h
       . rename_i hb
         exact⟨_,_,h,x,hx,by rw[hv]; simp[hb]⟩
       . exact h.elim
     . exact h.elim)
theorem Y0r(h:T05 P Shp V rt o ev blk k):∃s ob,k s ob/\T05 P Shp V rt o ev blk (λs' ob'=>s'=s/\ob'=ob):=by
 revert h; unfold T05
 repeat' split
 all_goals first
  | (intro h; exact h.elim)
  | (rintro⟨x,hx,h⟩; exact⟨_,_,h,x,hx,rfl,rfl⟩)
  | (rintro⟨x,hx,hs,h1,h⟩; exact⟨_,_,h,x,hx,hs,h1,rfl,rfl⟩)
  | (rintro⟨x,hx,hs,h⟩
     split at h
     . rename_i hv
       split at h
       . rename_i hb
         exact⟨_,_,h,x,hx,hs,by rw[hv]; simp[hb]⟩
       . exact h.elim
     . exact h.elim)
theorem Z0r(h:b07 P Shp V rt o ev blk k):∃s ob,k s ob/\b07 P Shp V rt o ev blk (λs' ob'=>s'=s/\ob'=ob):=by
 revert h; unfold b07
 repeat' split
 all_goals first
  | (intro h; exact h.elim)
  | (rintro⟨x,hx,h⟩; exact⟨_,_,h,x,hx,rfl,rfl⟩)
  | (rintro⟨x,hx,hs,h1,h⟩; exact⟨_,_,h,x,hx,hs,h1,rfl,rfl⟩)
  | (rintro⟨x,hx,hs,h⟩
     split at h
     . rename_i hv
       split at h
       . rename_i hb
         exact⟨_,_,h,x,hx,hs,by rw[hv]; simp[hb]⟩
       . exact h.elim
     . exact h.elim)
theorem g0r(h:A06 P Shp V rt o ev blk k):∃s ob,k s ob/\A06 P Shp V rt o ev blk (λs' ob'=>s'=s/\ob'=ob):=by
 revert h; unfold A06
 repeat' split
 all_goals first
  | (intro h; exact h.elim)
  | (rintro⟨b,off,cs,h0,h1,h2,h⟩; exact⟨_,_,h,b,off,cs,h0,h1,h2,rfl,rfl⟩)
theorem T0p(h:u05 P Shp V rt o ev blk k):∃s ob,k s ob/\u05 P Shp V rt o ev blk (λs' ob'=>s'=s/\ob'=ob):=by
 revert h; unfold u05
 repeat' split
 all_goals first
  | (intro h; exact h.elim)
  | (intro h; exact⟨_,_,h,rfl,rfl⟩)
  | (intro h; exact⟨_,_,h.2,h.1,rfl,rfl⟩)
theorem U0p(h:P03 P Shp V rt o ev blk k):∃s ob,k s ob/\P03 P Shp V rt o ev blk (λs' ob'=>s'=s/\ob'=ob):=by
 revert h; unfold P03
 repeat' split
 all_goals first
  | (intro h; exact h.elim)
  | (intro h; exact⟨_,_,h,rfl,rfl⟩)
  | (intro h; exact⟨_,_,h.2,h.1,rfl,rfl⟩)
theorem i0r(h:U05 P Shp V rt o ev blk k):∃s ob,k s ob/\U05 P Shp V rt o ev blk (λs' ob'=>s'=s/\ob'=ob):=by
 revert h; unfold U05
 repeat' split
 all_goals first
  | (intro h; exact h.elim)
  | (intro h; exact⟨_,_,h.2,h.1,rfl,rfl⟩)
  | (rintro⟨x,hx,h⟩; exact⟨_,_,h,x,hx,rfl,rfl⟩)
  | (rintro⟨h0,x,hx,h⟩
     split at h
     . rename_i hv
       split at h
       . rename_i hb
         exact⟨_,_,h,h0,x,hx,by rw[hv]; simp[hb]⟩
       . exact h.elim
     . exact h.elim)
theorem j0r(h:W05 P Shp V rt o ev blk k):∃s ob,k s ob/\W05 P Shp V rt o ev blk (λs' ob'=>s'=s/\ob'=ob):=by
 revert h; unfold W05
 repeat' split
 all_goals first
  | (intro h; exact h.elim)
  | (rintro⟨vs,h1,h2,h3,h4,h5,h⟩; exact⟨_,_,h,vs,h1,h2,h3,h4,h5,rfl,rfl⟩)
theorem t0l{an:An}(h:c07 P Shp V an o ev blk k):∃s ob,k s ob/\c07 P Shp V an o ev blk (λs' ob'=>s'=s/\ob'=ob):=by
 revert h; unfold c07
 split
 . exact e0r
 . exact X0r
 . exact f0r
 . exact Y0r
 . exact T0p
 . exact U0p
 . exact i0r
 . exact j0r
 . exact Z0r
 . exact g0r
 . split
   . intro h; obtain⟨s,hk,hg⟩:=f0o h
     obtain⟨s',ob,hk',hl⟩:=d0r hk
     exact⟨s',ob,hk',o07 (λs2 e=>by rw[e]; exact hl) hg⟩
   . intro h; exact h.elim
 . unfold n0b
   repeat' split
   all_goals first
    | (intro h; exact h.elim)
    | (intro h; exact⟨_,_,h,rfl,rfl⟩)
 . split
   . intro h; obtain⟨s,hk,hg⟩:=f0o h; exact⟨s,_,hk,o07 (λs' e=>⟨e,rfl⟩) hg⟩
   . intro h; exact h.elim
 . split
   . intro h; obtain⟨s,hk,hg⟩:=f0o h; exact⟨s,_,hk,o07 (λs' e=>⟨e,rfl⟩) hg⟩
   . intro h; exact h.elim
theorem H0c{an:An}(hk:∀s ob,k s ob->k' s ob)(h:c07 P Shp V an o ev blk k):c07 P Shp V an o ev blk k':=by
 revert h; unfold c07
 split
 . unfold k05; repeat' split
   all_goals first
    | (intro h; exact h.elim)
    | (intro h; exact hk _ _ h)
 . unfold q08; repeat' split
   all_goals first
    | (intro h; exact h.elim)
    | (intro h; exact h.2.elim)
    | (intro h; exact hk _ _ h)
    | (intro h; exact⟨h.1,hk _ _ h.2⟩)
 . unfold S05; repeat' split
   all_goals first
    | (intro h; exact h.elim)
    | (intro h; exact hk _ _ h)
    | (rintro⟨x,hx,h⟩; exact⟨x,hx,hk _ _ h⟩)
    | (rintro⟨x,hx,h⟩
       refine⟨x,hx,?_⟩
       revert h
       split
       . split
         . exact hk _ _
         . exact id
       . exact id)
 . unfold T05; repeat' split
   all_goals first
    | (intro h; exact h.elim)
    | (rintro⟨x,hx,h⟩; exact⟨x,hx,hk _ _ h⟩)
    | (rintro⟨x,hx,hs,h1,h⟩; exact⟨x,hx,hs,h1,hk _ _ h⟩)
    | (rintro⟨x,hx,hs,h⟩
       refine⟨x,hx,hs,?_⟩
       revert h
       split
       . split
         . exact hk _ _
         . exact id
       . exact id)
 . unfold u05; repeat' split
   all_goals first
    | (intro h; exact h.elim)
    | (intro h; exact hk _ _ h)
    | (intro h; exact⟨h.1,hk _ _ h.2⟩)
 . unfold P03; repeat' split
   all_goals first
    | (intro h; exact h.elim)
    | (intro h; exact hk _ _ h)
    | (intro h; exact⟨h.1,hk _ _ h.2⟩)
 . unfold U05; repeat' split
   all_goals first
    | (intro h; exact h.elim)
    | (intro h; exact⟨h.1,hk _ _ h.2⟩)
    | (rintro⟨x,hx,h⟩; exact⟨x,hx,hk _ _ h⟩)
    | (rintro⟨h0,x,hx,h⟩
       refine⟨h0,x,hx,?_⟩
       revert h
       split
       . split
         . exact hk _ _
         . exact id
       . exact id)
 . unfold W05; repeat' split
   all_goals first
    | (intro h; exact h.elim)
    | (rintro⟨vs,h1,h2,h3,h4,h5,h⟩; exact⟨vs,h1,h2,h3,h4,h5,hk _ _ h⟩)
 . unfold b07; repeat' split
   all_goals first
    | (intro h; exact h.elim)
    | (rintro⟨x,hx,h⟩; exact⟨x,hx,hk _ _ h⟩)
    | (rintro⟨x,hx,hs,h⟩
       refine⟨x,hx,hs,?_⟩
       revert h
       split
       . split
         . exact hk _ _
         . exact id
       . exact id)
 . unfold A06; repeat' split
   all_goals first
    | (intro h; exact h.elim)
    | (rintro⟨b,off,cs,h0,h1,h2,h⟩; exact⟨b,off,cs,h0,h1,h2,hk _ _ h⟩)
 . split
   . exact o07 (λs=>t0i (λs=>hk s _))
   . exact id
 . unfold n0b; repeat' split
   all_goals first
    | (intro h; exact h.elim)
    | (intro h; exact hk _ _ h)
 . split
   . exact o07 (λs=>hk s _)
   . exact id
 . split
   . exact o07 (λs=>hk s _)
   . exact id
theorem C0m{an:An}{V':View}(hV:V.le V')(h:c07 P Shp V an o ev blk k):c07 P Shp V' an o ev blk k:=by
 revert h; unfold c07
 split
 . exact id
 . exact id
 . exact id
 . unfold T05; repeat' split
   all_goals first
    | exact id
    | (rintro⟨x,hx,h⟩; exact⟨x,Q02 hV hx,h⟩)
    | (rintro⟨x,hx,hs,h⟩; exact⟨x,Y07 hV hx,hs,h⟩)
 . exact id
 . exact id
 . exact id
 . unfold W05; repeat' split
   all_goals first
    | exact id
    | (rintro⟨vs,h1,h2,h3,h4,h5,h⟩; exact⟨vs,Y07 hV h1,h2,h3,h4,h5,h⟩)
 . unfold b07; repeat' split
   all_goals first
    | exact id
    | (rintro⟨x,hx,h⟩; exact⟨x,O0p hV hx,h⟩)
    | (rintro⟨x,hx,hs,h⟩; exact⟨x,k0e hV hx,hs,h⟩)
 . exact id
 . split<;>exact id
 . exact id
 . split<;>exact id
 . split<;>exact id
theorem D0m{an:An}{b:Option OB}(h3:an.fl≠3)(h6:an.fl≠6)(h16:an.fl≠16)(h23:an.fl≠23)(h:c07 P Shp V an o ev (some b) k):c07 P Shp V an o ev (some b) (λs ob=>ob=b/\k s ob):=by
 revert h; unfold c07
 split
 . unfold k05; repeat' split
   all_goals first
    | (intro h; exact h.elim)
    | (intro h; simp_all; done)
 . contradiction
 . unfold S05; repeat' split
   all_goals first
    | (intro h; exact h.elim)
    | (intro h; simp_all; done)
    | (rintro⟨x,hx,h⟩; refine⟨x,hx,?_⟩; simp_all; done)
    | (rintro⟨x,hx,h⟩
       refine⟨x,hx,?_⟩
       revert h
       split
       . split
         . intro h; simp_all
         . exact id
       . exact id)
 . unfold T05; repeat' split
   all_goals first
    | (intro h; exact h.elim)
    | (rintro⟨x,hx,h⟩; refine⟨x,hx,?_⟩; simp_all; done)
    | (rintro⟨x,hx,hs,h1,h⟩; refine⟨x,hx,hs,h1,?_⟩; simp_all; done)
    | (rintro⟨x,hx,hs,h⟩
       refine⟨x,hx,hs,?_⟩
       revert h
       split
       . split
         . intro h; simp_all
         . exact id
       . exact id)
 . contradiction
 . unfold P03; repeat' split
   all_goals first
    | (intro h; exact h.elim)
    | (intro h; simp_all; done)
 . unfold U05; repeat' split
   all_goals first
    | (intro h; exact h.elim)
    | (intro h; simp_all; done)
    | (rintro⟨x,hx,h⟩; refine⟨x,hx,?_⟩; simp_all; done)
 . contradiction
 . unfold b07; repeat' split
   all_goals first
    | (intro h; exact h.elim)
    | (rintro⟨x,hx,h⟩; refine⟨x,hx,?_⟩; simp_all; done)
    | (rintro⟨x,hx,hs,h⟩
       refine⟨x,hx,hs,?_⟩
       revert h
       split
       . split
         . intro h; simp_all
         . exact id
       . exact id)
 . contradiction
 . exact o07 (λs=>t0i (λs h=>⟨rfl,h⟩))
 . unfold n0b; repeat' split
   all_goals first
    | (intro h; exact h.elim)
    | (intro h; simp_all; done)
 . exact o07 (λs h=>⟨rfl,h⟩)
 . exact o07 (λs h=>⟨rfl,h⟩)
end laws
section congr
variable {P:Program} {Shp:I03} {V:View} {rt:Nat} {o:Oper} {ev ev':Operand->SV} {blk:Option (Option OB)} {k:SV->Option OB->Prop}
theorem I0c{α:Type}{p q:α->Bool}:∀ {l:List α},(∀x∈l,p x=q x)->l.all p=l.all q
 | [],_=>rfl
 | x::l,h=>by simp[h x (by simp),I0c (l:=l) (λy hy=>h y (by simp[hy]))]
theorem p0e{fl:Nat}{k:SV->Prop}(hev:∀x∈o.op.operands,ev x=ev' x)(h:gen P fl o ev k):gen P fl o ev' k:=by
 have h1:o.op.operands.toList.all (λx=>(ev x).asVal.isSome)=o.op.operands.toList.all (λx=>(ev' x).asVal.isSome) :=
  I0c λx hx=>by rw[hev x (by simpa using hx)]
 cases hs:F0b o.op with
 | true=>unfold gen at h; rw[hs]at h; exact h.elim
 | false =>
   have h2:execOp (rho ev) o=execOp (rho ev') o :=
    execOp_congr o (by intro cs b e; rw[e]at hs; simp[F0b]at hs) (λx hx=>by simp[rho,hev x hx])
   unfold gen at h ⊢
   rw[<-h1,<-h2]; exact h
theorem E0m(hev:∀x∈o.op.operands,ev x=ev' x)(h:k05 P Shp V rt o ev blk k):k05 P Shp V rt o ev' blk k:=by
 revert h; unfold k05
 split
 . rename_i x hop; rw[hev x (by simp[hop,Op.operands])]; exact id
 . rename_i x hop; rw[hev x (by simp[hop,Op.operands])]; exact id
 . rename_i c x y hop; rw[hev c (by simp[hop,Op.operands]),hev x (by simp[hop,Op.operands]),hev y (by simp[hop,Op.operands])]; exact id
 . rename_i x i hop; rw[hev x (by simp[hop,Op.operands])]; exact id
 . exact id
theorem L06{o:Oper}{ev ev':Operand->SV}(hev:∀x∈o.op.operands,ev x=ev' x):G0b P o ev=G0b P o ev':=by
 unfold G0b
 split
 . rename_i t n parts hop
   have hp:∀p∈parts.toList,ev p.2=ev' p.2:=λp hp=>hev p.2 (by simp[hop,Op.operands]; exact⟨p.1,by simpa using hp⟩)
   have h1:parts.toList.all (λp=>(ev p.2).asVal.isSome)=parts.toList.all (λp=>(ev' p.2).asVal.isSome):=I0c λp h=>by rw[hp p h]
   have h2:(parts.toList.map λp=>(p.1,rho ev p.2))=parts.toList.map λp=>(p.1,rho ev' p.2):=List.map_congr_left λp h=>by simp[rho,hp p h]
   rw[h1,h2]
 . rfl
theorem g0o(hev:∀x∈o.op.operands,ev x=ev' x)(h:q08 P Shp V rt o ev blk k):q08 P Shp V rt o ev' blk k:=by
 revert h; unfold q08
 split
 . exact id
 . rename_i t x hop; rw[hev x (by simp[hop,Op.operands])]; exact id
 . rename_i t n c hop; rw[hev n (by simp[hop,Op.operands]),hev c (by simp[hop,Op.operands])]; exact id
 . rename_i t n parts hop; rw[L06 hev]; exact id
 . exact id
theorem F0m(hev:∀x∈o.op.operands,ev x=ev' x)(h:S05 P Shp V rt o ev blk k):S05 P Shp V rt o ev' blk k:=by
 revert h; unfold S05
 split
 . rename_i t p ob hop; rw[hev p (by simp[hop,Op.operands])]; exact id
 . exact id
theorem i0o(hev:∀x∈o.op.operands,ev x=ev' x)(h:T05 P Shp V rt o ev blk k):T05 P Shp V rt o ev' blk k:=by
 revert h; unfold T05
 split
 . rename_i t p b hop; rw[hev p (by simp[hop,Op.operands])]; exact id
 . rename_i src dst x b hop; rw[hev x (by simp[hop,Op.operands])]; exact id
 . exact id
theorem i0k(hev:∀x∈o.op.operands,ev x=ev' x)(h:u05 P Shp V rt o ev blk k):u05 P Shp V rt o ev' blk k:=by
 revert h; unfold u05
 split
 . rename_i t p x ob hop; rw[hev p (by simp[hop,Op.operands]),hev x (by simp[hop,Op.operands])]; exact id
 . exact id
theorem j0o(hev:∀x∈o.op.operands,ev x=ev' x)(h:b07 P Shp V rt o ev blk k):b07 P Shp V rt o ev' blk k:=by
 revert h; unfold b07
 split
 . rename_i t p ty m hop; rw[hev p (by simp[hop,Op.operands])]; exact id
 . exact id
theorem G0m(hev:∀x∈o.op.operands,ev x=ev' x)(h:A06 P Shp V rt o ev blk k):A06 P Shp V rt o ev' blk k:=by
 revert h; unfold A06
 split
 . rename_i t p x ty m hop; rw[hev p (by simp[hop,Op.operands]),hev x (by simp[hop,Op.operands])]; exact id
 . exact id
theorem j0k(hev:∀x∈o.op.operands,ev x=ev' x)(h:P03 P Shp V rt o ev blk k):P03 P Shp V rt o ev' blk k:=by
 revert h; unfold P03
 split
 . rename_i s p f b hop; rw[hev p (by simp[hop,Op.operands])]; exact id
 . rename_i t x i b hop; rw[hev x (by simp[hop,Op.operands]),hev i (by simp[hop,Op.operands])]; exact id
 . rename_i t x lo hi mx b hop
   rw[hev x (by simp[hop,Op.operands])]
   cases lo with
   | none => cases hi with
     | none=>exact id
     | some y=>simp only[hev y (by simp[hop,Op.operands])]; exact id
   | some z => cases hi with
     | none=>simp only[hev z (by simp[hop,Op.operands])]; exact id
     | some y=>simp only[hev y (by simp[hop,Op.operands]),hev z (by simp[hop,Op.operands])]; exact id
 . rename_i c b hop
   split
   . rename_i x t hcal hargs htys
     rw[hev x (by
      have:x∈c.args.toList:=by rw[hargs]; simp
      simp only[hop,Op.operands,Call.operands]
      simp at this
      simp[this])]
     exact id
   . exact id
 . rename_i f first caps b hop
   split
   . rename_i p hf hc
     rw[hev p (by
      have:p∈caps.toList:=by rw[hc]; simp
      simp at this
      simp[hop,Op.operands,this])]
     exact id
   . exact id
 . exact id
theorem p07{ev ev':Operand->SV}:∀ {l:List Operand},(∀x∈l,ev x=ev' x)->a07 ev l=a07 ev' l
 | [],_=>rfl
 | x::l,h=>by simp[a07,h x (by simp),p07 (l:=l) (λy hy=>h y (by simp[hy]))]
theorem H0m(hev:∀x∈o.op.operands,ev x=ev' x)(h:U05 P Shp V rt o ev blk k):U05 P Shp V rt o ev' blk k:=by
 revert h; unfold U05
 split
 . exact id
 . split
   . rename_i op t x y yt hop
     rw[hev x (by simp[hop,Op.operands]),hev y (by simp[hop,Op.operands])]; exact id
   . rename_i c hop
     have hc:∀x∈c.args.toList,ev x=ev' x:=λx hx=>hev x (by
      simp only[hop,Op.operands,Call.operands]
      simp at hx
      simp[hx])
     split
     . rename_i x y hcal hargs
       rw[hargs]at hc
       rw[hc x (by simp),hc y (by simp)]; exact id
     . rename_i x y hcal hargs
       rw[hargs]at hc
       rw[hc x (by simp),hc y (by simp)]; exact id
     . rw[p07 hc]; exact id
     . exact id
   . rename_i t x ix hop
     rw[hev x (by simp[hop,Op.operands]),hev ix (by simp[hop,Op.operands])]; exact id
   . rename_i src dst x hop
     rw[hev x (by simp[hop,Op.operands])]; exact id
   . rename_i t x lo hi mx hop
     rw[hev x (by simp[hop,Op.operands]),hev mx (by simp[hop,Op.operands])]
     cases lo with
     | none => cases hi with
       | none=>exact id
       | some y=>simp only[hev y (by simp[hop,Op.operands])]; exact id
     | some z => cases hi with
       | none=>simp only[hev z (by simp[hop,Op.operands])]; exact id
       | some y=>simp only[hev y (by simp[hop,Op.operands]),hev z (by simp[hop,Op.operands])]; exact id
   . rename_i t x hop
     rw[hev x (by simp[hop,Op.operands])]; exact id
   . exact id
theorem I0m(hev:∀x∈o.op.operands,ev x=ev' x)(h:W05 P Shp V rt o ev blk k):W05 P Shp V rt o ev' blk k:=by
 revert h; unfold W05
 split
 . rename_i c ob hop
   have hc:∀x∈c.args.toList,ev x=ev' x:=λx hx=>hev x (by
    simp only[hop,Op.operands,Call.operands]
    simp at hx
    simp[hx])
   split
   . rename_i x y t t2 hcal hargs htys
     rw[hargs]at hc
     rw[hc x (by simp),hc y (by simp)]; exact id
   . exact id
 . exact id
theorem k0k{an:An}(hev:∀x∈o.op.operands,ev x=ev' x)(h:c07 P Shp V an o ev blk k):c07 P Shp V an o ev' blk k:=by
 revert h; unfold c07
 split
 . exact E0m hev
 . exact g0o hev
 . exact F0m hev
 . exact i0o hev
 . exact i0k hev
 . exact j0k hev
 . exact H0m hev
 . exact I0m hev
 . exact j0o hev
 . exact G0m hev
 . split
   . exact p0e hev
   . exact id
 . unfold n0b; split
   . rename_i t x b hop; rw[hev x (by simp[hop,Op.operands])]; exact id
   . rename_i c x y b hop; rw[hev c (by simp[hop,Op.operands]),hev x (by simp[hop,Op.operands]),hev y (by simp[hop,Op.operands])]; exact id
   . exact id
 . split
   . exact p0e hev
   . exact id
 . split
   . exact p0e hev
   . exact id
end congr
