/- Part. -/
import Derived.Test.YtjadnpidefnpoaaGreatVcD
namespace Go.Vc
open Go Go.RowKit
section laws
variable {P:Program} {Shp:l04} {V:View} {rt:Nat} {o:Oper} {ev:Operand->SV} {blk:Option (Option OB)} {k k':SV->Option OB->Prop}
theorem A0w{fl:Nat}{k:SV->Prop}(h:gen P fl o ev k):∃s,k s/\gen P fl o ev (λs'=>s'=s):=by
 revert h; unfold gen;split
 . split
   . intro h; exact⟨_,h,rfl⟩
   intro h; exact h.elim
 . rintro⟨v,hv,h⟩; exact⟨_,h,v,hv,rfl⟩
 intro h; exact h.elim
theorem u0a{fl:Nat}{k k':SV->Prop}(hk:∀s,k s->k' s)(h:gen P fl o ev k):gen P fl o ev k':=by
 revert h; unfold gen;split
 . split
   . intro h; exact hk _ h
   intro h; exact h.elim
 . rintro⟨v,hv,h⟩; exact⟨v,hv,hk _ h⟩
 intro h; exact h.elim
theorem s12{b:Option OB}{s:SV}(h:litK b k s):∃s' ob,k s' ob/\litK b (λs2 ob2=>s2=s'/\ob2=ob) s:=by
 unfold litK at h;split at h
 . exact⟨_,_,h,rfl,rfl⟩
 . exact⟨_,_,h,rfl,rfl⟩
 exact h.elim
theorem c0p{b:Option OB}{k k':SV->Option OB->Prop}(hk:∀s,k s b->k' s b){s:SV}(h:litK b k s):litK b k' s:=by
 unfold litK at h;split at h
 . exact hk _ h
 . exact hk _ h
 exact h.elim
theorem u12(h:J07 P Shp V rt o ev blk k):∃s ob,k s ob/\J07 P Shp V rt o ev blk (λs' ob'=>s'=s/\ob'=ob):=by
 revert h; unfold J07
 repeat' split
 all_goals first
  | (intro h; exact h.elim)
  | (intro h; exact⟨_,_,h,rfl,rfl⟩)
theorem U13(h:c0c P Shp V rt o ev blk k):∃s ob,k s ob/\c0c P Shp V rt o ev blk (λs' ob'=>s'=s/\ob'=ob):=by
 revert h; unfold c0c
 repeat' split
 all_goals first
  | (intro h; exact h.elim)
  | (intro h; exact h.2.elim)
  | (intro h; exact⟨_,_,h,rfl,rfl⟩)
  | (intro h; exact⟨_,_,h.2,h.1,rfl,rfl⟩)
theorem w12(h:x08 P Shp V rt o ev blk k):∃s ob,k s ob/\x08 P Shp V rt o ev blk (λs' ob'=>s'=s/\ob'=ob):=by
 revert h; unfold x08
 repeat' split
 all_goals first
  | (intro h; exact h.elim)
  | (intro h; exact⟨_,_,h,rfl,rfl⟩)
  | (rintro⟨x,hx,h⟩; exact⟨_,_,h,x,hx,rfl,rfl⟩)
  | (rintro⟨x,hx,h⟩
     split at h
     . rename_i hv;split at h
       . rename_i hb;exact⟨_,_,h,x,hx,by rw[hv]; simp[hb]⟩
       exact h.elim
     exact h.elim)
theorem W13(h:y08 P Shp V rt o ev blk k):∃s ob,k s ob/\y08 P Shp V rt o ev blk (λs' ob'=>s'=s/\ob'=ob):=by
 revert h; unfold y08
 repeat' split
 all_goals first
  | (intro h; exact h.elim)
  | (rintro⟨x,hx,h⟩; exact⟨_,_,h,x,hx,rfl,rfl⟩)
  | (rintro⟨x,hx,hs,h1,h⟩; exact⟨_,_,h,x,hx,hs,h1,rfl,rfl⟩)
  | (rintro⟨x,hx,hs,h⟩
     split at h
     . rename_i hv;split at h
       . rename_i hb;exact⟨_,_,h,x,hx,hs,by rw[hv]; simp[hb]⟩
       exact h.elim
     exact h.elim)
theorem X13(h:Z09 P Shp V rt o ev blk k):∃s ob,k s ob/\Z09 P Shp V rt o ev blk (λs' ob'=>s'=s/\ob'=ob):=by
 revert h; unfold Z09
 repeat' split
 all_goals first
  | (intro h; exact h.elim)
  | (rintro⟨x,hx,h⟩; exact⟨_,_,h,x,hx,rfl,rfl⟩)
  | (rintro⟨x,hx,hs,h1,h⟩; exact⟨_,_,h,x,hx,hs,h1,rfl,rfl⟩)
  | (rintro⟨x,hx,hs,h⟩
     split at h
     . rename_i hv;split at h
       . rename_i hb;exact⟨_,_,h,x,hx,hs,by rw[hv]; simp[hb]⟩
       exact h.elim
     exact h.elim)
theorem y12(h:m09 P Shp V rt o ev blk k):∃s ob,k s ob/\m09 P Shp V rt o ev blk (λs' ob'=>s'=s/\ob'=ob):=by
 revert h; unfold m09
 repeat' split
 all_goals first
  | (intro h; exact h.elim)
  | (rintro⟨b,off,cs,h0,h1,h2,h⟩; exact⟨_,_,h,b,off,cs,h0,h1,h2,rfl,rfl⟩)
theorem J0z(h:Y07 P Shp V rt o ev blk k):∃s ob,k s ob/\Y07 P Shp V rt o ev blk (λs' ob'=>s'=s/\ob'=ob):=by
 revert h; unfold Y07
 repeat' split
 all_goals first
  | (intro h; exact h.elim)
  | (intro h; exact⟨_,_,h,rfl,rfl⟩)
  | (intro h; exact⟨_,_,h.2,h.1,rfl,rfl⟩)
theorem K0z(h:H05 P Shp V rt o ev blk k):∃s ob,k s ob/\H05 P Shp V rt o ev blk (λs' ob'=>s'=s/\ob'=ob):=by
 revert h; unfold H05
 repeat' split
 all_goals first
  | (intro h; exact h.elim)
  | (intro h; exact⟨_,_,h,rfl,rfl⟩)
  | (intro h; exact⟨_,_,h.2,h.1,rfl,rfl⟩)
theorem z12(h:z08 P Shp V rt o ev blk k):∃s ob,k s ob/\z08 P Shp V rt o ev blk (λs' ob'=>s'=s/\ob'=ob):=by
 revert h; unfold z08
 repeat' split
 all_goals first
  | (intro h; exact h.elim)
  | (intro h; exact⟨_,_,h.2,h.1,rfl,rfl⟩)
  | (rintro⟨x,hx,h⟩; exact⟨_,_,h,x,hx,rfl,rfl⟩)
  | (rintro⟨h0,x,hx,h⟩
     split at h
     . rename_i hv;split at h
       . rename_i hb;exact⟨_,_,h,h0,x,hx,by rw[hv]; simp[hb]⟩
       exact h.elim
     exact h.elim)
theorem A12(h:A08 P Shp V rt o ev blk k):∃s ob,k s ob/\A08 P Shp V rt o ev blk (λs' ob'=>s'=s/\ob'=ob):=by
 revert h; unfold A08
 repeat' split
 all_goals first
  | (intro h; exact h.elim)
  | (rintro⟨vs,h1,h2,h3,h4,h5,h⟩; exact⟨_,_,h,vs,h1,h2,h3,h4,h5,rfl,rfl⟩)
theorem j0t{an:An}(h:a0a P Shp V an o ev blk k):∃s ob,k s ob/\a0a P Shp V an o ev blk (λs' ob'=>s'=s/\ob'=ob):=by
 revert h; unfold a0a;split
 . exact u12
 . exact U13
 . exact w12
 . exact W13
 . exact J0z
 . exact K0z
 . exact z12
 . exact A12
 . exact X13
 . exact y12
 . split
   . intro h; obtain⟨s,hk,hg⟩:=A0w h;obtain⟨s',ob,hk',hl⟩:=s12 hk;exact⟨s',ob,hk',u0a (λs2 e=>by rw[e]; exact hl) hg⟩
   intro h; exact h.elim
 . unfold L0f
   repeat' split
   all_goals first
    | (intro h; exact h.elim)
    | (intro h; exact⟨_,_,h,rfl,rfl⟩)
 . split
   . intro h; obtain⟨s,hk,hg⟩:=A0w h; exact⟨s,_,hk,u0a (λs' e=>⟨e,rfl⟩) hg⟩
   intro h; exact h.elim
 split
 . intro h; obtain⟨s,hk,hg⟩:=A0w h; exact⟨s,_,hk,u0a (λs' e=>⟨e,rfl⟩) hg⟩
 intro h; exact h.elim
theorem x0h{an:An}(hk:∀s ob,k s ob->k' s ob)(h:a0a P Shp V an o ev blk k):a0a P Shp V an o ev blk k':=by
 revert h; unfold a0a;split
 . unfold J07; repeat' split
   all_goals first
    | (intro h; exact h.elim)
    | (intro h; exact hk _ _ h)
 . unfold c0c; repeat' split
   all_goals first
    | (intro h; exact h.elim)
    | (intro h; exact h.2.elim)
    | (intro h; exact hk _ _ h)
    | (intro h; exact⟨h.1,hk _ _ h.2⟩)
 . unfold x08; repeat' split
   all_goals first
    | (intro h; exact h.elim)
    | (intro h; exact hk _ _ h)
    | (rintro⟨x,hx,h⟩; exact⟨x,hx,hk _ _ h⟩)
    | (rintro⟨x,hx,h⟩
       refine⟨x,hx,?_⟩;revert h;split
       . split
         . exact hk _ _
         exact id
       exact id)
 . unfold y08; repeat' split
   all_goals first
    | (intro h; exact h.elim)
    | (rintro⟨x,hx,h⟩; exact⟨x,hx,hk _ _ h⟩)
    | (rintro⟨x,hx,hs,h1,h⟩; exact⟨x,hx,hs,h1,hk _ _ h⟩)
    | (rintro⟨x,hx,hs,h⟩
       refine⟨x,hx,hs,?_⟩;revert h;split
       . split
         . exact hk _ _
         exact id
       exact id)
 . unfold Y07; repeat' split
   all_goals first
    | (intro h; exact h.elim)
    | (intro h; exact hk _ _ h)
    | (intro h; exact⟨h.1,hk _ _ h.2⟩)
 . unfold H05; repeat' split
   all_goals first
    | (intro h; exact h.elim)
    | (intro h; exact hk _ _ h)
    | (intro h; exact⟨h.1,hk _ _ h.2⟩)
 . unfold z08; repeat' split
   all_goals first
    | (intro h; exact h.elim)
    | (intro h; exact⟨h.1,hk _ _ h.2⟩)
    | (rintro⟨x,hx,h⟩; exact⟨x,hx,hk _ _ h⟩)
    | (rintro⟨h0,x,hx,h⟩
       refine⟨h0,x,hx,?_⟩;revert h;split
       . split
         . exact hk _ _
         exact id
       exact id)
 . unfold A08; repeat' split
   all_goals first
    | (intro h; exact h.elim)
    | (rintro⟨vs,h1,h2,h3,h4,h5,h⟩; exact⟨vs,h1,h2,h3,h4,h5,hk _ _ h⟩)
 . unfold Z09; repeat' split
   all_goals first
    | (intro h; exact h.elim)
    | (rintro⟨x,hx,h⟩; exact⟨x,hx,hk _ _ h⟩)
    | (rintro⟨x,hx,hs,h⟩
       refine⟨x,hx,hs,?_⟩;revert h;split
       . split
         . exact hk _ _
         exact id
       exact id)
 . unfold m09; repeat' split
   all_goals first
    | (intro h; exact h.elim)
    | (rintro⟨b,off,cs,h0,h1,h2,h⟩; exact⟨b,off,cs,h0,h1,h2,hk _ _ h⟩)
 . split
   . exact u0a (λs=>c0p (λs=>hk s _))
   exact id
 . unfold L0f; repeat' split
   all_goals first
    | (intro h; exact h.elim)
    | (intro h; exact hk _ _ h)
 . split
   . exact u0a (λs=>hk s _)
   exact id
 split
 . exact u0a (λs=>hk s _)
 exact id
theorem t0u{an:An}{V':View}(hV:V.le V')(h:a0a P Shp V an o ev blk k):a0a P Shp V' an o ev blk k:=by
 revert h; unfold a0a;split
 . exact id
 . exact id
 . exact id
 . unfold y08; repeat' split
   all_goals first
    | exact id
    | (rintro⟨x,hx,h⟩; exact⟨x,H02 hV hx,h⟩)
    | (rintro⟨x,hx,hs,h⟩; exact⟨x,w06 hV hx,hs,h⟩)
 . exact id
 . exact id
 . exact id
 . unfold A08; repeat' split
   all_goals first
    | exact id
    | (rintro⟨vs,h1,h2,h3,h4,h5,h⟩; exact⟨vs,w06 hV h1,h2,h3,h4,h5,h⟩)
 . unfold Z09; repeat' split
   all_goals first
    | exact id
    | (rintro⟨x,hx,h⟩; exact⟨x,F0z hV hx,h⟩)
    | (rintro⟨x,hx,hs,h⟩; exact⟨x,P0d hV hx,hs,h⟩)
 . exact id
 . split<;>exact id
 . exact id
 . split<;>exact id
 split<;>exact id
theorem u0u{an:An}{b:Option OB}(h3:an.fl≠3)(h6:an.fl≠6)(h16:an.fl≠16)(h23:an.fl≠23)(h:a0a P Shp V an o ev (some b) k):a0a P Shp V an o ev (some b) (λs ob=>ob=b/\k s ob):=by
 revert h; unfold a0a;split
 . unfold J07; repeat' split
   all_goals first
    | (intro h; exact h.elim)
    | (intro h; simp_all; done)
 . contradiction
 . unfold x08; repeat' split
   all_goals first
    | (intro h; exact h.elim)
    | (intro h; simp_all; done)
    | (rintro⟨x,hx,h⟩; refine⟨x,hx,?_⟩; simp_all; done)
    | (rintro⟨x,hx,h⟩
       refine⟨x,hx,?_⟩;revert h;split
       . split
         . intro h; simp_all
         exact id
       exact id)
 . unfold y08; repeat' split
   all_goals first
    | (intro h; exact h.elim)
    | (rintro⟨x,hx,h⟩; refine⟨x,hx,?_⟩; simp_all; done)
    | (rintro⟨x,hx,hs,h1,h⟩; refine⟨x,hx,hs,h1,?_⟩; simp_all; done)
    | (rintro⟨x,hx,hs,h⟩
       refine⟨x,hx,hs,?_⟩;revert h;split
       . split
         . intro h; simp_all
         exact id
       exact id)
 . contradiction
 . unfold H05; repeat' split
   all_goals first
    | (intro h; exact h.elim)
    | (intro h; simp_all; done)
 . unfold z08; repeat' split
   all_goals first
    | (intro h; exact h.elim)
    | (intro h; simp_all; done)
    | (rintro⟨x,hx,h⟩; refine⟨x,hx,?_⟩; simp_all; done)
 . contradiction
 . unfold Z09; repeat' split
   all_goals first
    | (intro h; exact h.elim)
    | (rintro⟨x,hx,h⟩; refine⟨x,hx,?_⟩; simp_all; done)
    | (rintro⟨x,hx,hs,h⟩
       refine⟨x,hx,hs,?_⟩;revert h;split
       . split
         . intro h; simp_all
         exact id
       exact id)
 . contradiction
 . exact u0a (λs=>c0p (λs h=>⟨rfl,h⟩))
 . unfold L0f; repeat' split
   all_goals first
    | (intro h; exact h.elim)
    | (intro h; simp_all; done)
 . exact u0a (λs h=>⟨rfl,h⟩)
 exact u0a (λs h=>⟨rfl,h⟩)
end laws
section congr
variable {P:Program} {Shp:l04} {V:View} {rt:Nat} {o:Oper} {ev ev':Operand->SV} {blk:Option (Option OB)} {k:SV->Option OB->Prop}
theorem y0h{α:Type}{p q:α->Bool}:∀ {l:List α},(∀x∈l,p x=q x)->l.all p=l.all q
 | [],_=>rfl
 | x::l,h=>by simp[h x (by simp),y0h (l:=l) (λy hy=>h y (by simp[hy]))]
theorem A0j{fl:Nat}{k:SV->Prop}(hev:∀x∈o.op.operands,ev x=ev' x)(h:gen P fl o ev k):gen P fl o ev' k:=by
 have h1:o.op.operands.toList.all (λx=>(ev x).asVal.isSome)=o.op.operands.toList.all (λx=>(ev' x).asVal.isSome) :=
  y0h λx hx=>by rw[hev x (by simpa using hx)]
 cases hs:j0g o.op with
 | true=>unfold gen at h; rw[hs]at h; exact h.elim
 | false =>
   have h2:execOp (rho ev) o=execOp (rho ev') o :=
    execOp_congr o (by intro cs b e; rw[e]at hs; simp[j0g]at hs) (λx hx=>by simp[rho,hev x hx])
   unfold gen at h ⊢;rw[<-h1,<-h2]; exact h
theorem w0u(hev:∀x∈o.op.operands,ev x=ev' x)(h:J07 P Shp V rt o ev blk k):J07 P Shp V rt o ev' blk k:=by
 revert h; unfold J07;split
 . rename_i x hop; rw[hev x (by simp[hop,Op.operands])]; exact id
 . rename_i x hop; rw[hev x (by simp[hop,Op.operands])]; exact id
 . rename_i c x y hop; rw[hev c (by simp[hop,Op.operands]),hev x (by simp[hop,Op.operands]),hev y (by simp[hop,Op.operands])]; exact id
 . rename_i x i hop; rw[hev x (by simp[hop,Op.operands])]; exact id
 exact id
theorem q09{o:Oper}{ev ev':Operand->SV}(hev:∀x∈o.op.operands,ev x=ev' x):k0g P o ev=k0g P o ev':=by
 unfold k0g;split
 . rename_i t n parts hop;have hp:∀p∈parts.toList,ev p.2=ev' p.2:=λp hp=>hev p.2 (by simp[hop,Op.operands]; exact⟨p.1,by simpa using hp⟩)
   have h1:parts.toList.all (λp=>(ev p.2).asVal.isSome)=parts.toList.all (λp=>(ev' p.2).asVal.isSome):=y0h λp h=>by rw[hp p h]
   have h2:(parts.toList.map λp=>(p.1,rho ev p.2))=parts.toList.map λp=>(p.1,rho ev' p.2):=Ch λp h=>by simp[rho,hp p h]
   rw[h1,h2]
 rfl
theorem B0w(hev:∀x∈o.op.operands,ev x=ev' x)(h:c0c P Shp V rt o ev blk k):c0c P Shp V rt o ev' blk k:=by
 revert h; unfold c0c;split
 . exact id
 . rename_i t x hop; rw[hev x (by simp[hop,Op.operands])]; exact id
 . rename_i t n c hop; rw[hev n (by simp[hop,Op.operands]),hev c (by simp[hop,Op.operands])]; exact id
 . rename_i t n parts hop; rw[q09 hev]; exact id
 exact id
theorem x0u(hev:∀x∈o.op.operands,ev x=ev' x)(h:x08 P Shp V rt o ev blk k):x08 P Shp V rt o ev' blk k:=by
 revert h; unfold x08;split
 . rename_i t p ob hop; rw[hev p (by simp[hop,Op.operands])]; exact id
 exact id
theorem C0w(hev:∀x∈o.op.operands,ev x=ev' x)(h:y08 P Shp V rt o ev blk k):y08 P Shp V rt o ev' blk k:=by
 revert h; unfold y08;split
 . rename_i t p b hop; rw[hev p (by simp[hop,Op.operands])]; exact id
 . rename_i src dst x b hop; rw[hev x (by simp[hop,Op.operands])]; exact id
 exact id
theorem z0r(hev:∀x∈o.op.operands,ev x=ev' x)(h:Y07 P Shp V rt o ev blk k):Y07 P Shp V rt o ev' blk k:=by
 revert h; unfold Y07;split
 . rename_i t p x ob hop; rw[hev p (by simp[hop,Op.operands]),hev x (by simp[hop,Op.operands])]; exact id
 exact id
theorem D0w(hev:∀x∈o.op.operands,ev x=ev' x)(h:Z09 P Shp V rt o ev blk k):Z09 P Shp V rt o ev' blk k:=by
 revert h; unfold Z09;split
 . rename_i t p ty m hop; rw[hev p (by simp[hop,Op.operands])]; exact id
 exact id
theorem y0u(hev:∀x∈o.op.operands,ev x=ev' x)(h:m09 P Shp V rt o ev blk k):m09 P Shp V rt o ev' blk k:=by
 revert h; unfold m09;split
 . rename_i t p x ty m hop; rw[hev p (by simp[hop,Op.operands]),hev x (by simp[hop,Op.operands])]; exact id
 exact id
theorem A0r(hev:∀x∈o.op.operands,ev x=ev' x)(h:H05 P Shp V rt o ev blk k):H05 P Shp V rt o ev' blk k:=by
 revert h; unfold H05;split
 . rename_i s p f b hop; rw[hev p (by simp[hop,Op.operands])]; exact id
 . rename_i t x i b hop; rw[hev x (by simp[hop,Op.operands]),hev i (by simp[hop,Op.operands])]; exact id
 . rename_i t x lo hi mx b hop;rw[hev x (by simp[hop,Op.operands])];cases lo with
   | none => cases hi with
     | none=>exact id
     | some y=>simp only[hev y (by simp[hop,Op.operands])]; exact id
   | some z => cases hi with
     | none=>simp only[hev z (by simp[hop,Op.operands])]; exact id
     | some y=>simp only[hev y (by simp[hop,Op.operands]),hev z (by simp[hop,Op.operands])]; exact id
 . rename_i c b hop;split
   . rename_i x t hcal hargs htys;rw[hev x (by
      have:x∈c.args.toList:=by rw[hargs]; simp
      simp only[hop,Op.operands,Call.operands];simp at this;simp[this])]
     exact id
   exact id
 . rename_i f first caps b hop
   split
   . rename_i p hf hc;rw[hev p (by
      have:p∈caps.toList:=by rw[hc]; simp
      simp at this;simp[hop,Op.operands,this])]
     exact id
   exact id
 exact id
theorem w0a{ev ev':Operand->SV}:∀ {l:List Operand},(∀x∈l,ev x=ev' x)->Y09 ev l=Y09 ev' l
 | [],_=>rfl
 | x::l,h=>by simp[Y09,h x (by simp),w0a (l:=l) (λy hy=>h y (by simp[hy]))]
theorem z0u(hev:∀x∈o.op.operands,ev x=ev' x)(h:z08 P Shp V rt o ev blk k):z08 P Shp V rt o ev' blk k:=by
 revert h; unfold z08;split
 . exact id
 split
 . rename_i op t x y yt hop;rw[hev x (by simp[hop,Op.operands]),hev y (by simp[hop,Op.operands])]; exact id
 . rename_i c hop;have hc:∀x∈c.args.toList,ev x=ev' x:=λx hx=>hev x (by
    simp only[hop,Op.operands,Call.operands];simp at hx;simp[hx])
   split
   . rename_i x y hcal hargs;rw[hargs]at hc;rw[hc x (by simp),hc y (by simp)]; exact id
   . rename_i x y hcal hargs;rw[hargs]at hc;rw[hc x (by simp),hc y (by simp)]; exact id
   . rw[w0a hc]; exact id
   exact id
 . rename_i t x ix hop;rw[hev x (by simp[hop,Op.operands]),hev ix (by simp[hop,Op.operands])]; exact id
 . rename_i src dst x hop;rw[hev x (by simp[hop,Op.operands])]; exact id
 . rename_i t x lo hi mx hop;rw[hev x (by simp[hop,Op.operands]),hev mx (by simp[hop,Op.operands])];cases lo with
   | none => cases hi with
     | none=>exact id
     | some y=>simp only[hev y (by simp[hop,Op.operands])]; exact id
   | some z => cases hi with
     | none=>simp only[hev z (by simp[hop,Op.operands])]; exact id
     | some y=>simp only[hev y (by simp[hop,Op.operands]),hev z (by simp[hop,Op.operands])]; exact id
 . rename_i t x hop;rw[hev x (by simp[hop,Op.operands])]; exact id
 exact id
theorem A0u(hev:∀x∈o.op.operands,ev x=ev' x)(h:A08 P Shp V rt o ev blk k):A08 P Shp V rt o ev' blk k:=by
 revert h; unfold A08;split
 . rename_i c ob hop;have hc:∀x∈c.args.toList,ev x=ev' x:=λx hx=>hev x (by
    simp only[hop,Op.operands,Call.operands];simp at hx;simp[hx])
   split
   . rename_i x y t t2 hcal hargs htys;rw[hargs]at hc;rw[hc x (by simp),hc y (by simp)]; exact id
   exact id
 exact id
theorem B0r{an:An}(hev:∀x∈o.op.operands,ev x=ev' x)(h:a0a P Shp V an o ev blk k):a0a P Shp V an o ev' blk k:=by
 revert h; unfold a0a;split
 . exact w0u hev
 . exact B0w hev
 . exact x0u hev
 . exact C0w hev
 . exact z0r hev
 . exact A0r hev
 . exact z0u hev
 . exact A0u hev
 . exact D0w hev
 . exact y0u hev
 . split
   . exact A0j hev
   exact id
 . unfold L0f; split
   . rename_i t x b hop; rw[hev x (by simp[hop,Op.operands])]; exact id
   . rename_i c x y b hop; rw[hev c (by simp[hop,Op.operands]),hev x (by simp[hop,Op.operands]),hev y (by simp[hop,Op.operands])]; exact id
   exact id
 . split
   . exact A0j hev
   exact id
 split
 . exact A0j hev
 exact id
end congr
