/- Part. -/
import Derived.Test.YtfdaofhjkdabbaaGreatVcD
namespace Go.Vc
open Go Go.RowKit
section laws
variable {P:Program} {Shp:S04} {V:View} {rt:Nat} {o:Oper} {ev:Operand→SV} {blk:Option (Option OB)} {k k':SV→Option OB→Prop}
theorem q0s {fl:Nat} {k:SV→Prop} (h:gen P fl o ev k):∃s,k s∧gen P fl o ev (fun s'=>s'=s):=by
 revert h; unfold gen
 split
 · split
   · intro h; exact⟨_,h,rfl⟩
   · intro h; exact h.elim
 · rintro⟨v,hv,h⟩; exact⟨_,h,v,hv,rfl⟩
 · intro h; exact h.elim
theorem e09 {fl:Nat} {k k':SV→Prop} (hk:∀s,k s→k' s) (h:gen P fl o ev k):gen P fl o ev k':=by
 revert h; unfold gen
 split
 · split
   · intro h; exact hk _ h
   · intro h; exact h.elim
 · rintro⟨v,hv,h⟩; exact⟨v,hv,hk _ h⟩
 · intro h; exact h.elim
theorem A0v {b:Option OB} {s:SV} (h:litK b k s):∃s' ob,k s' ob∧litK b (fun s2 ob2=>s2=s'∧ob2=ob) s:=by
 unfold litK at h
 split at h
 · exact⟨_,_,h,rfl,rfl⟩
 · exact⟨_,_,h,rfl,rfl⟩
 · exact h.elim
theorem i0m {b:Option OB} {k k':SV→Option OB→Prop} (hk:∀s,k s b→k' s b) {s:SV} (h:litK b k s):litK b k' s:=by
 unfold litK at h
 split at h
 · exact hk _ h
 · exact hk _ h
 · exact h.elim
theorem B0v (h:D06 P Shp V rt o ev blk k):∃s ob,k s ob∧D06 P Shp V rt o ev blk (fun s' ob'=>s'=s∧ob'=ob):=by
 revert h; unfold D06
 repeat' split
 all_goals first
  | (intro h; exact h.elim)
  | (intro h; exact⟨_,_,h,rfl,rfl⟩)
theorem n0w (h:q0a P Shp V rt o ev blk k):∃s ob,k s ob∧q0a P Shp V rt o ev blk (fun s' ob'=>s'=s∧ob'=ob):=by
 revert h; unfold q0a
 repeat' split
 all_goals first
  | (intro h; exact h.elim)
  | (intro h; exact h.2.elim)
  | (intro h; exact⟨_,_,h,rfl,rfl⟩)
  | (intro h; exact⟨_,_,h.2,h.1,rfl,rfl⟩)
theorem C0v (h:n07 P Shp V rt o ev blk k):∃s ob,k s ob∧n07 P Shp V rt o ev blk (fun s' ob'=>s'=s∧ob'=ob):=by
 revert h; unfold n07
 repeat' split
 all_goals first
  | (intro h; exact h.elim)
  | (intro h; exact⟨_,_,h,rfl,rfl⟩)
  | (rintro⟨x,hx,h⟩; exact⟨_,_,h,x,hx,rfl,rfl⟩)
  | (rintro⟨x,hx,h⟩
     split at h
     · rename_i hv
       split at h
       · rename_i hb
         exact⟨_,_,h,x,hx,by rw[hv]; simp[hb]⟩
       · exact h.elim
     · exact h.elim)
theorem o0w (h:o07 P Shp V rt o ev blk k):∃s ob,k s ob∧o07 P Shp V rt o ev blk (fun s' ob'=>s'=s∧ob'=ob):=by
 revert h; unfold o07
 repeat' split
 all_goals first
  | (intro h; exact h.elim)
  | (rintro⟨x,hx,h⟩; exact⟨_,_,h,x,hx,rfl,rfl⟩)
  | (rintro⟨x,hx,hs,h1,h⟩; exact⟨_,_,h,x,hx,hs,h1,rfl,rfl⟩)
  | (rintro⟨x,hx,hs,h⟩
     split at h
     · rename_i hv
       split at h
       · rename_i hb
         exact⟨_,_,h,x,hx,hs,by rw[hv]; simp[hb]⟩
       · exact h.elim
     · exact h.elim)
theorem q0w (h:Q08 P Shp V rt o ev blk k):∃s ob,k s ob∧Q08 P Shp V rt o ev blk (fun s' ob'=>s'=s∧ob'=ob):=by
 revert h; unfold Q08
 repeat' split
 all_goals first
  | (intro h; exact h.elim)
  | (rintro⟨x,hx,h⟩; exact⟨_,_,h,x,hx,rfl,rfl⟩)
  | (rintro⟨x,hx,hs,h1,h⟩; exact⟨_,_,h,x,hx,hs,h1,rfl,rfl⟩)
  | (rintro⟨x,hx,hs,h⟩
     split at h
     · rename_i hv
       split at h
       · rename_i hb
         exact⟨_,_,h,x,hx,hs,by rw[hv]; simp[hb]⟩
       · exact h.elim
     · exact h.elim)
theorem D0v (h:d08 P Shp V rt o ev blk k):∃s ob,k s ob∧d08 P Shp V rt o ev blk (fun s' ob'=>s'=s∧ob'=ob):=by
 revert h; unfold d08
 repeat' split
 all_goals first
  | (intro h; exact h.elim)
  | (rintro⟨b,off,cs,h0,h1,h2,h⟩; exact⟨_,_,h,b,off,cs,h0,h1,h2,rfl,rfl⟩)
theorem t0u (h:J06 P Shp V rt o ev blk k):∃s ob,k s ob∧J06 P Shp V rt o ev blk (fun s' ob'=>s'=s∧ob'=ob):=by
 revert h; unfold J06
 repeat' split
 all_goals first
  | (intro h; exact h.elim)
  | (intro h; exact⟨_,_,h,rfl,rfl⟩)
  | (intro h; exact⟨_,_,h.2,h.1,rfl,rfl⟩)
theorem u0u (h:Y04 P Shp V rt o ev blk k):∃s ob,k s ob∧Y04 P Shp V rt o ev blk (fun s' ob'=>s'=s∧ob'=ob):=by
 revert h; unfold Y04
 repeat' split
 all_goals first
  | (intro h; exact h.elim)
  | (intro h; exact⟨_,_,h,rfl,rfl⟩)
  | (intro h; exact⟨_,_,h.2,h.1,rfl,rfl⟩)
theorem E0v (h:p07 P Shp V rt o ev blk k):∃s ob,k s ob∧p07 P Shp V rt o ev blk (fun s' ob'=>s'=s∧ob'=ob):=by
 revert h; unfold p07
 repeat' split
 all_goals first
  | (intro h; exact h.elim)
  | (intro h; exact⟨_,_,h.2,h.1,rfl,rfl⟩)
  | (rintro⟨x,hx,h⟩; exact⟨_,_,h,x,hx,rfl,rfl⟩)
  | (rintro⟨h0,x,hx,h⟩
     split at h
     · rename_i hv
       split at h
       · rename_i hb
         exact⟨_,_,h,h0,x,hx,by rw[hv]; simp[hb]⟩
       · exact h.elim
     · exact h.elim)
theorem F0v (h:q07 P Shp V rt o ev blk k):∃s ob,k s ob∧q07 P Shp V rt o ev blk (fun s' ob'=>s'=s∧ob'=ob):=by
 revert h; unfold q07
 repeat' split
 all_goals first
  | (intro h; exact h.elim)
  | (rintro⟨vs,h1,h2,h3,h4,h5,h⟩; exact⟨_,_,h,vs,h1,h2,h3,h4,h5,rfl,rfl⟩)
theorem A0p {an:An} (h:S08 P Shp V an o ev blk k):∃s ob,k s ob∧S08 P Shp V an o ev blk (fun s' ob'=>s'=s∧ob'=ob):=by
 revert h; unfold S08
 split
 · exact B0v
 · exact n0w
 · exact C0v
 · exact o0w
 · exact t0u
 · exact u0u
 · exact E0v
 · exact F0v
 · exact q0w
 · exact D0v
 · split
   · intro h; obtain⟨s,hk,hg⟩:=q0s h
     obtain⟨s',ob,hk',hl⟩:=A0v hk
     exact⟨s',ob,hk',e09 (fun s2 e=>by rw[e]; exact hl) hg⟩
   · intro h; exact h.elim
 · unfold l0e
   repeat' split
   all_goals first
    | (intro h; exact h.elim)
    | (intro h; exact⟨_,_,h,rfl,rfl⟩)
 · split
   · intro h; obtain⟨s,hk,hg⟩:=q0s h; exact⟨s,_,hk,e09 (fun s' e=>⟨e,rfl⟩) hg⟩
   · intro h; exact h.elim
 · split
   · intro h; obtain⟨s,hk,hg⟩:=q0s h; exact⟨s,_,hk,e09 (fun s' e=>⟨e,rfl⟩) hg⟩
   · intro h; exact h.elim
theorem P0f {an:An} (hk:∀s ob,k s ob→k' s ob) (h:S08 P Shp V an o ev blk k):S08 P Shp V an o ev blk k':=by
 revert h; unfold S08
 split
 · unfold D06; repeat' split
   all_goals first
    | (intro h; exact h.elim)
    | (intro h; exact hk _ _ h)
 · unfold q0a; repeat' split
   all_goals first
    | (intro h; exact h.elim)
    | (intro h; exact h.2.elim)
    | (intro h; exact hk _ _ h)
    | (intro h; exact⟨h.1,hk _ _ h.2⟩)
 · unfold n07; repeat' split
   all_goals first
    | (intro h; exact h.elim)
    | (intro h; exact hk _ _ h)
    | (rintro⟨x,hx,h⟩; exact⟨x,hx,hk _ _ h⟩)
    | (rintro⟨x,hx,h⟩
       refine⟨x,hx,?_⟩
       revert h
       split
       · split
         · exact hk _ _
         · exact id
       · exact id)
 · unfold o07; repeat' split
   all_goals first
    | (intro h; exact h.elim)
    | (rintro⟨x,hx,h⟩; exact⟨x,hx,hk _ _ h⟩)
    | (rintro⟨x,hx,hs,h1,h⟩; exact⟨x,hx,hs,h1,hk _ _ h⟩)
    | (rintro⟨x,hx,hs,h⟩
       refine⟨x,hx,hs,?_⟩
       revert h
       split
       · split
         · exact hk _ _
         · exact id
       · exact id)
 · unfold J06; repeat' split
   all_goals first
    | (intro h; exact h.elim)
    | (intro h; exact hk _ _ h)
    | (intro h; exact⟨h.1,hk _ _ h.2⟩)
 · unfold Y04; repeat' split
   all_goals first
    | (intro h; exact h.elim)
    | (intro h; exact hk _ _ h)
    | (intro h; exact⟨h.1,hk _ _ h.2⟩)
 · unfold p07; repeat' split
   all_goals first
    | (intro h; exact h.elim)
    | (intro h; exact⟨h.1,hk _ _ h.2⟩)
    | (rintro⟨x,hx,h⟩; exact⟨x,hx,hk _ _ h⟩)
    | (rintro⟨h0,x,hx,h⟩
       refine⟨h0,x,hx,?_⟩
       revert h
       split
       · split
         · exact hk _ _
         · exact id
       · exact id)
 · unfold q07; repeat' split
   all_goals first
    | (intro h; exact h.elim)
    | (rintro⟨vs,h1,h2,h3,h4,h5,h⟩; exact⟨vs,h1,h2,h3,h4,h5,hk _ _ h⟩)
 · unfold Q08; repeat' split
   all_goals first
    | (intro h; exact h.elim)
    | (rintro⟨x,hx,h⟩; exact⟨x,hx,hk _ _ h⟩)
    | (rintro⟨x,hx,hs,h⟩
       refine⟨x,hx,hs,?_⟩
       revert h
       split
       · split
         · exact hk _ _
         · exact id
       · exact id)
 · unfold d08; repeat' split
   all_goals first
    | (intro h; exact h.elim)
    | (rintro⟨b,off,cs,h0,h1,h2,h⟩; exact⟨b,off,cs,h0,h1,h2,hk _ _ h⟩)
 · split
   · exact e09 (fun s=>i0m (fun s=>hk s _))
   · exact id
 · unfold l0e; repeat' split
   all_goals first
    | (intro h; exact h.elim)
    | (intro h; exact hk _ _ h)
 · split
   · exact e09 (fun s=>hk s _)
   · exact id
 · split
   · exact e09 (fun s=>hk s _)
   · exact id
theorem C0q {an:An} {V':View} (hV:V.le V') (h:S08 P Shp V an o ev blk k):S08 P Shp V' an o ev blk k:=by
 revert h; unfold S08
 split
 · exact id
 · exact id
 · exact id
 · unfold o07; repeat' split
   all_goals first
    | exact id
    | (rintro⟨x,hx,h⟩; exact⟨x,Q03 hV hx,h⟩)
    | (rintro⟨x,hx,hs,h⟩; exact⟨x,A06 hV hx,hs,h⟩)
 · exact id
 · exact id
 · exact id
 · unfold q07; repeat' split
   all_goals first
    | exact id
    | (rintro⟨vs,h1,h2,h3,h4,h5,h⟩; exact⟨vs,A06 hV h1,h2,h3,h4,h5,h⟩)
 · unfold Q08; repeat' split
   all_goals first
    | exact id
    | (rintro⟨x,hx,h⟩; exact⟨x,p0u hV hx,h⟩)
    | (rintro⟨x,hx,hs,h⟩; exact⟨x,J0f hV hx,hs,h⟩)
 · exact id
 · split<;>exact id
 · exact id
 · split<;>exact id
 · split<;>exact id
theorem D0q {an:An} {b:Option OB} (h3:an.fl≠3) (h6:an.fl≠6) (h16:an.fl≠16) (h23:an.fl≠23) (h:S08 P Shp V an o ev (some b) k):S08 P Shp V an o ev (some b) (fun s ob=>ob=b∧k s ob):=by
 revert h; unfold S08
 split
 · unfold D06; repeat' split
   all_goals first
    | (intro h; exact h.elim)
    | (intro h; simp_all; done)
 · contradiction
 · unfold n07; repeat' split
   all_goals first
    | (intro h; exact h.elim)
    | (intro h; simp_all; done)
    | (rintro⟨x,hx,h⟩; refine⟨x,hx,?_⟩; simp_all; done)
    | (rintro⟨x,hx,h⟩
       refine⟨x,hx,?_⟩
       revert h
       split
       · split
         · intro h; simp_all
         · exact id
       · exact id)
 · unfold o07; repeat' split
   all_goals first
    | (intro h; exact h.elim)
    | (rintro⟨x,hx,h⟩; refine⟨x,hx,?_⟩; simp_all; done)
    | (rintro⟨x,hx,hs,h1,h⟩; refine⟨x,hx,hs,h1,?_⟩; simp_all; done)
    | (rintro⟨x,hx,hs,h⟩
       refine⟨x,hx,hs,?_⟩
       revert h
       split
       · split
         · intro h; simp_all
         · exact id
       · exact id)
 · contradiction
 · unfold Y04; repeat' split
   all_goals first
    | (intro h; exact h.elim)
    | (intro h; simp_all; done)
 · unfold p07; repeat' split
   all_goals first
    | (intro h; exact h.elim)
    | (intro h; simp_all; done)
    | (rintro⟨x,hx,h⟩; refine⟨x,hx,?_⟩; simp_all; done)
 · contradiction
 · unfold Q08; repeat' split
   all_goals first
    | (intro h; exact h.elim)
    | (rintro⟨x,hx,h⟩; refine⟨x,hx,?_⟩; simp_all; done)
    | (rintro⟨x,hx,hs,h⟩
       refine⟨x,hx,hs,?_⟩
       revert h
       split
       · split
         · intro h; simp_all
         · exact id
       · exact id)
 · contradiction
 · exact e09 (fun s=>i0m (fun s h=>⟨rfl,h⟩))
 · unfold l0e; repeat' split
   all_goals first
    | (intro h; exact h.elim)
    | (intro h; simp_all; done)
 · exact e09 (fun s h=>⟨rfl,h⟩)
 · exact e09 (fun s h=>⟨rfl,h⟩)
end laws
section congr
variable {P:Program} {Shp:S04} {V:View} {rt:Nat} {o:Oper} {ev ev':Operand→SV} {blk:Option (Option OB)} {k:SV→Option OB→Prop}
theorem Q0f {α:Type} {p q:α→Bool}:∀ {l:List α},(∀x∈l,p x=q x)→l.all p=l.all q
 | [],_=>rfl
 | x::l,h=>by simp[h x (by simp),Q0f (l:=l) (fun y hy=>h y (by simp[hy]))]
theorem B0h {fl:Nat} {k:SV→Prop} (hev:∀x∈o.op.operands,ev x=ev' x) (h:gen P fl o ev k):gen P fl o ev' k:=by
 have h1:o.op.operands.toList.all (fun x=>(ev x).asVal.isSome)=o.op.operands.toList.all (fun x=>(ev' x).asVal.isSome) :=
  Q0f fun x hx=>by rw[hev x (by simpa using hx)]
 cases hs:H0e o.op with
 | true=>unfold gen at h; rw[hs]at h; exact h.elim
 | false =>
   have h2:execOp (rho ev) o=execOp (rho ev') o :=
    execOp_congr o (by intro cs b e; rw[e]at hs; simp[H0e]at hs) (fun x hx=>by simp[rho,hev x hx])
   unfold gen at h ⊢
   rw[←h1,←h2]; exact h
theorem E0q (hev:∀x∈o.op.operands,ev x=ev' x) (h:D06 P Shp V rt o ev blk k):D06 P Shp V rt o ev' blk k:=by
 revert h; unfold D06
 split
 · rename_i x hop; rw[hev x (by simp[hop,Op.operands])]; exact id
 · rename_i x hop; rw[hev x (by simp[hop,Op.operands])]; exact id
 · rename_i c x y hop; rw[hev c (by simp[hop,Op.operands]),hev x (by simp[hop,Op.operands]),hev y (by simp[hop,Op.operands])]; exact id
 · rename_i x i hop; rw[hev x (by simp[hop,Op.operands])]; exact id
 · exact id
theorem z08 {o:Oper} {ev ev':Operand→SV} (hev:∀x∈o.op.operands,ev x=ev' x):I0e P o ev=I0e P o ev':=by
 unfold I0e
 split
 · rename_i t n parts hop
   have hp:∀p∈parts.toList,ev p.2=ev' p.2:=fun p hp=>hev p.2 (by simp[hop,Op.operands]; exact⟨p.1,by simpa using hp⟩)
   have h1:parts.toList.all (fun p=>(ev p.2).asVal.isSome)=parts.toList.all (fun p=>(ev' p.2).asVal.isSome):=Q0f fun p h=>by rw[hp p h]
   have h2:(parts.toList.map fun p=>(p.1,rho ev p.2))=parts.toList.map fun p=>(p.1,rho ev' p.2):=List.map_congr_left fun p h=>by simp[rho,hp p h]
   rw[h1,h2]
 · rfl
theorem s0s (hev:∀x∈o.op.operands,ev x=ev' x) (h:q0a P Shp V rt o ev blk k):q0a P Shp V rt o ev' blk k:=by
 revert h; unfold q0a
 split
 · exact id
 · rename_i t x hop; rw[hev x (by simp[hop,Op.operands])]; exact id
 · rename_i t n c hop; rw[hev n (by simp[hop,Op.operands]),hev c (by simp[hop,Op.operands])]; exact id
 · rename_i t n parts hop; rw[z08 hev]; exact id
 · exact id
theorem F0q (hev:∀x∈o.op.operands,ev x=ev' x) (h:n07 P Shp V rt o ev blk k):n07 P Shp V rt o ev' blk k:=by
 revert h; unfold n07
 split
 · rename_i t p ob hop; rw[hev p (by simp[hop,Op.operands])]; exact id
 · exact id
theorem t0s (hev:∀x∈o.op.operands,ev x=ev' x) (h:o07 P Shp V rt o ev blk k):o07 P Shp V rt o ev' blk k:=by
 revert h; unfold o07
 split
 · rename_i t p b hop; rw[hev p (by simp[hop,Op.operands])]; exact id
 · rename_i src dst x b hop; rw[hev x (by simp[hop,Op.operands])]; exact id
 · exact id
theorem g0o (hev:∀x∈o.op.operands,ev x=ev' x) (h:J06 P Shp V rt o ev blk k):J06 P Shp V rt o ev' blk k:=by
 revert h; unfold J06
 split
 · rename_i t p x ob hop; rw[hev p (by simp[hop,Op.operands]),hev x (by simp[hop,Op.operands])]; exact id
 · exact id
theorem u0s (hev:∀x∈o.op.operands,ev x=ev' x) (h:Q08 P Shp V rt o ev blk k):Q08 P Shp V rt o ev' blk k:=by
 revert h; unfold Q08
 split
 · rename_i t p ty m hop; rw[hev p (by simp[hop,Op.operands])]; exact id
 · exact id
theorem G0q (hev:∀x∈o.op.operands,ev x=ev' x) (h:d08 P Shp V rt o ev blk k):d08 P Shp V rt o ev' blk k:=by
 revert h; unfold d08
 split
 · rename_i t p x ty m hop; rw[hev p (by simp[hop,Op.operands]),hev x (by simp[hop,Op.operands])]; exact id
 · exact id
theorem i0o (hev:∀x∈o.op.operands,ev x=ev' x) (h:Y04 P Shp V rt o ev blk k):Y04 P Shp V rt o ev' blk k:=by
 revert h; unfold Y04
 split
 · rename_i s p f b hop; rw[hev p (by simp[hop,Op.operands])]; exact id
 · rename_i t x i b hop; rw[hev x (by simp[hop,Op.operands]),hev i (by simp[hop,Op.operands])]; exact id
 · rename_i t x lo hi mx b hop
   rw[hev x (by simp[hop,Op.operands])]
   cases lo with
   | none => cases hi with
     | none=>exact id
     | some y=>simp only[hev y (by simp[hop,Op.operands])]; exact id
   | some z => cases hi with
     | none=>simp only[hev z (by simp[hop,Op.operands])]; exact id
     | some y=>simp only[hev y (by simp[hop,Op.operands]),hev z (by simp[hop,Op.operands])]; exact id
 · rename_i c b hop
   split
   · rename_i x t hcal hargs htys
     rw[hev x (by
      have:x∈c.args.toList:=by rw[hargs]; simp
      simp only[hop,Op.operands,Call.operands]
      simp at this
      simp[this])]
     exact id
   · exact id
 · rename_i f first caps b hop
   split
   · rename_i p hf hc
     rw[hev p (by
      have:p∈caps.toList:=by rw[hc]; simp
      simp at this
      simp[hop,Op.operands,this])]
     exact id
   · exact id
 · exact id
theorem f09 {ev ev':Operand→SV}:∀ {l:List Operand},(∀x∈l,ev x=ev' x)→P08 ev l=P08 ev' l
 | [],_=>rfl
 | x::l,h=>by simp[P08,h x (by simp),f09 (l:=l) (fun y hy=>h y (by simp[hy]))]
theorem H0q (hev:∀x∈o.op.operands,ev x=ev' x) (h:p07 P Shp V rt o ev blk k):p07 P Shp V rt o ev' blk k:=by
 revert h; unfold p07
 split
 · exact id
 · split
   · rename_i op t x y yt hop
     rw[hev x (by simp[hop,Op.operands]),hev y (by simp[hop,Op.operands])]; exact id
   · rename_i c hop
     have hc:∀x∈c.args.toList,ev x=ev' x:=fun x hx=>hev x (by
      simp only[hop,Op.operands,Call.operands]
      simp at hx
      simp[hx])
     split
     · rename_i x y hcal hargs
       rw[hargs]at hc
       rw[hc x (by simp),hc y (by simp)]; exact id
     · rename_i x y hcal hargs
       rw[hargs]at hc
       rw[hc x (by simp),hc y (by simp)]; exact id
     · rw[f09 hc]; exact id
     · exact id
   · rename_i t x ix hop
     rw[hev x (by simp[hop,Op.operands]),hev ix (by simp[hop,Op.operands])]; exact id
   · rename_i t x lo hi mx hop
     rw[hev x (by simp[hop,Op.operands]),hev mx (by simp[hop,Op.operands])]
     cases lo with
     | none => cases hi with
       | none=>exact id
       | some y=>simp only[hev y (by simp[hop,Op.operands])]; exact id
     | some z => cases hi with
       | none=>simp only[hev z (by simp[hop,Op.operands])]; exact id
       | some y=>simp only[hev y (by simp[hop,Op.operands]),hev z (by simp[hop,Op.operands])]; exact id
   · exact id
theorem I0q (hev:∀x∈o.op.operands,ev x=ev' x) (h:q07 P Shp V rt o ev blk k):q07 P Shp V rt o ev' blk k:=by
 revert h; unfold q07
 split
 · rename_i c ob hop
   have hc:∀x∈c.args.toList,ev x=ev' x:=fun x hx=>hev x (by
    simp only[hop,Op.operands,Call.operands]
    simp at hx
    simp[hx])
   split
   · rename_i x y t t2 hcal hargs htys
     rw[hargs]at hc
     rw[hc x (by simp),hc y (by simp)]; exact id
   · exact id
 · exact id
theorem j0o {an:An} (hev:∀x∈o.op.operands,ev x=ev' x) (h:S08 P Shp V an o ev blk k):S08 P Shp V an o ev' blk k:=by
 revert h; unfold S08
 split
 · exact E0q hev
 · exact s0s hev
 · exact F0q hev
 · exact t0s hev
 · exact g0o hev
 · exact i0o hev
 · exact H0q hev
 · exact I0q hev
 · exact u0s hev
 · exact G0q hev
 · split
   · exact B0h hev
   · exact id
 · unfold l0e; split
   · rename_i t x b hop; rw[hev x (by simp[hop,Op.operands])]; exact id
   · rename_i c x y b hop; rw[hev c (by simp[hop,Op.operands]),hev x (by simp[hop,Op.operands]),hev y (by simp[hop,Op.operands])]; exact id
   · exact id
 · split
   · exact B0h hev
   · exact id
 · split
   · exact B0h hev
   · exact id
end congr
