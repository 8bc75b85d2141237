/- TransformLaws returns true for every input, and the input reads as it did. Conditions: none. -/
import Derived.Test.YtblaagclfalaaaaPartD
import Derived.Test.YtblaagclfalaaaaRows
namespace Go.Proofs.Ytblaagclfalaaaa.transformLaws
open Go Go.Vc Go.ChangeShapes Go.WideShapes Go.ChangeAt Go.RowKit
theorem own:ownKnob Try.prog.godebug=none:=by kernel_rfl
theorem laid:laidOutB Try.prog=true:=by kernel_rfl
theorem ratTy:RatTy Try.prog 60:=⟨⟨_,_,_,Try.underlying60,⟨rfl,rfl,rfl⟩,⟨by kernel_rfl,by kernel_rfl,by kernel_rfl⟩,by kernel_rfl,by kernel_rfl,by kernel_rfl⟩,by kernel_rfl⟩
theorem types:∀t∈Try.f3.params.toList,Try.prog.readableRec t=true/\t<Try.prog.types.size:=by
  rw[Try.params3]
  intro t ht
  simp only[List.mem_cons,List.not_mem_nil,or_false]at ht
  rcases ht with rfl|rfl|rfl|rfl<;>exact⟨by kernel_rfl,by decide +kernel⟩
set_option maxRecDepth 100000 in
theorem lifted(os:Os)(started:os.Started)(H:Type)(enc:TypeId×Value->H) :
    ReturnsInHanded {} Try.checked os 3 .any (Rows.transformLawsSpec.pre6 enc Try.prog Try.f3 Rows.transformLawsRow.domain false) (Rows.transformLawsSpec.post enc Try.prog Try.f3 false true false false):=by
  refine returnsInHanded_of_change (C:=Try.checked) own started (by kernel_rfl) Try.func3
    (ChangeSpec.witness6 (enc:=enc) (C:=Try.checked) false ⟨#[],#[.slice none 0 0,.slice none 0 0,.int .u8 0,.int .i64 0],[]⟩ 8 (by kernel_rfl) (by kernel_rfl) (by kernel_rfl) (by kernel_rfl)) ?_
  intro W base args ds gs before hval0 hW hcnd _
  have hval:∀(j:Nat) t v,Try.f3.params[j]?=some t->args[j]?=some v->Value.okWide Try.prog W .any base t v:=hval0
  have hW':=hW
  obtain⟨p,q,hA0,hV,rfl,hfz,hnd⟩:=hW
  have hA:DataW.TrodAll enc Try.prog W 0 (λ_=>true) true Try.f3.params.toList args.toList ds p:=hA0
  have hAk:DataW.TrodAll enc Try.prog W 0 (λ_=>true) true Try.f3.params.toList args.toList ds p:=hA0
  rw[Try.params3]at hA hval
  obtain⟨v0,vs0,d0,ds0,p0,q0,hargs,rfl,rfl,h0,r0⟩:=trodAll_cons hA
  obtain⟨v1,vs1,d1,ds1,p1,q1,rfl,rfl,rfl,h1,r1⟩:=trodAll_cons r0
  obtain⟨v2,vs2,d2,ds2,p2,q2,rfl,rfl,rfl,h2,r2⟩:=trodAll_cons r1
  obtain⟨v3,vs3,d3,ds3,p3,q3,rfl,rfl,rfl,h3,r3⟩:=trodAll_cons r2
  obtain⟨rfl,rfl,rfl⟩:=trodAll_nil r3
  obtain rfl:args=#[v0,v1,v2,v3]:=by cases args; simp_all
  obtain⟨rfl,rfl⟩:=trodVars_none hV
  obtain⟨s0,rs0,rfl,hrs0,hl0,hi0⟩:=open_ratsW Try.underlying22 ratTy (okWide_slice Try.underlying22 (hval 0 22 v0 rfl rfl)) h0
  obtain⟨s1,rs1,rfl,hrs1,hl1,hi1⟩:=open_ratsW Try.underlying22 ratTy (okWide_slice Try.underlying22 (hval 1 22 v1 rfl rfl)) h1
  obtain⟨a2,rfl,rfl,rfl,w2⟩:=open_int Try.underlying5 (hval 2 5 v2 rfl rfl) h2
  obtain⟨a3,rfl,rfl,rfl,w3⟩:=open_int Try.underlying3 (hval 3 3 v3 rfl rfl) h3
  clear hA0 hval0
  simp only[List.append_nil]at hW' hAk
  refine(CallV.fits (TransformLaws_spec hrs0 (Nat.lt_of_le_of_lt hl0 (by decide)) hrs1 (Nat.lt_of_le_of_lt hl1 (by decide)) (bounds_u8 w2).1) (worldView_in W)).mono λe W' ⟨he,hg⟩ => ?_
  subst he
  exact⟨_,rfl,post_of_read laid types hW' hAk (λ_ _ _=>(trodAll_cons_mk (shut_bool Try.underlying4 _) trodAll_mk0)) rfl (λ_=>rfl) hg⟩
theorem c1:(Rows.transformLawsRow.inPlace==Try.prog.inPlace 3)=true:=by kernel_rfl
theorem c2:(Rows.transformLawsRow.unfollowed==Try.prog.unfollowed 3)=true:=by kernel_rfl
theorem c3:(Rows.transformLawsRow.recurses==Try.prog.recurses 3)=true:=by kernel_rfl
theorem c4:(Rows.transformLawsRow.named==Try.prog.varsNamed 3)=true:=by kernel_rfl
theorem c5:mapsRowed Try.prog=true:=by kernel_rfl
theorem c6:(Rows.transformLawsRow.plainKeys==Try.prog.plainKeys)=true:=by kernel_rfl
theorem c7:Try.prog.stopsHeard=true:=by kernel_rfl
theorem c8:Try.prog.mayEnter=true:=by kernel_rfl
theorem c9:(Rows.transformLawsRow.lifted==Try.prog.liftsFinal)=true:=by kernel_rfl
theorem c10:(Try.prog.make==some Rows.transformLawsRow.make)=true:=by kernel_rfl
theorem closed:joinedFacts Try.prog 3 Try.f3 Rows.transformLawsSpec Rows.transformLawsRow=true:=by
  unfold joinedFacts
  rw[c1,c2,c3,c4,c5,c6,c7,c8,c9,c10,laid]
  kernel_rfl
theorem over:Rows.transformLawsRow.holds Try.pinned (OpenSpec.ofChange Rows.transformLawsSpec) :=
  OpenClaim.holds_of_wide 3 Try.f3 rfl rfl rfl rfl rfl rfl rfl ⟨rfl,rfl,rfl,rfl,rfl⟩ rfl rfl rfl rfl rfl (by kernel_rfl) Try.func3 closed
    (of_decide_eq_true (by kernel_rfl)) (by unfold Func.isWrapper; first|(rw[if_pos (by decide +kernel)]; kernel_rfl)|(rw[if_neg (by decide +kernel)]; exact⟨rfl,rfl⟩))
    (λos started H enc _=>lifted os started H enc)
theorem proved:Rows.TransformLawsSaid :=
  over
end Go.Proofs.Ytblaagclfalaaaa.transformLaws
