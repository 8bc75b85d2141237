/- TransformRectangles returns true for every input, and the input reads as it did. Conditions: none. -/
import Derived.Test.YtfdaofhjkdabbaaPartD
import Derived.Test.YtfdaofhjkdabbaaRows
namespace Go.Proofs.Ytfdaofhjkdabbaa.transformRectangles
open Go Go.Vc Go.ChangeShapes Go.WideShapes Go.ChangeAt Go.RowKit
theorem own:ownKnob Try.prog.godebug=none:=by kernel_rfl
theorem laid:laidOutB Try.prog=true:=by kernel_rfl
theorem ratTy:RatTy Try.prog 59:=⟨⟨_,_,_,Try.underlying59,⟨rfl,rfl,rfl⟩,⟨by kernel_rfl,by kernel_rfl,by kernel_rfl⟩,by kernel_rfl,by kernel_rfl,by kernel_rfl⟩,by kernel_rfl⟩
theorem types:∀t∈Try.f4.params.toList,Try.prog.readableRec t=true/\t<Try.prog.types.size:=by
  rw[Try.params4]
  intro t ht
  simp only[List.mem_cons,List.not_mem_nil,or_false]at ht
  rcases ht with rfl|rfl|rfl<;>exact⟨by kernel_rfl,by decide +kernel⟩
set_option maxRecDepth 100000 in
theorem lifted(os:Os)(started:os.Started)(H:Type)(enc:TypeId×Value->H) :
    ReturnsInHanded {} Try.checked os 4 .any (Rows.transformRectanglesSpec.pre6 enc Try.prog Try.f4 Rows.transformRectanglesRow.domain false) (Rows.transformRectanglesSpec.post enc Try.prog Try.f4 false true false false):=by
  refine returnsInHanded_of_change (C:=Try.checked) own started (by kernel_rfl) Try.func4
    (ChangeSpec.witness6 (enc:=enc) (C:=Try.checked) false ⟨#[],#[.slice none 0 0,.int .u8 0,.int .u8 0],[]⟩ 8 (by kernel_rfl) (by kernel_rfl) (by kernel_rfl) (by kernel_rfl)) ?_
  intro W base args ds gs before hval0 hW hcnd _
  have hval:∀(j:Nat) t v,Try.f4.params[j]?=some t->args[j]?=some v->Value.okWide Try.prog W .any base t v:=hval0
  have hW':=hW
  obtain⟨p,q,hA0,hV,rfl,hfz,hnd⟩:=hW
  have hA:DataW.TrodAll enc Try.prog W 0 (λ_=>true) true Try.f4.params.toList args.toList ds p:=hA0
  have hAk:DataW.TrodAll enc Try.prog W 0 (λ_=>true) true Try.f4.params.toList args.toList ds p:=hA0
  rw[Try.params4]at hA hval
  obtain⟨v0,vs0,d0,ds0,p0,q0,hargs,rfl,rfl,h0,r0⟩:=trodAll_cons hA
  obtain⟨v1,vs1,d1,ds1,p1,q1,rfl,rfl,rfl,h1,r1⟩:=trodAll_cons r0
  obtain⟨v2,vs2,d2,ds2,p2,q2,rfl,rfl,rfl,h2,r2⟩:=trodAll_cons r1
  obtain⟨rfl,rfl,rfl⟩:=trodAll_nil r2
  obtain rfl:args=#[v0,v1,v2]:=by cases args; simp_all
  obtain⟨rfl,rfl⟩:=trodVars_none hV
  obtain⟨s0,rs0,rfl,hrs0,hl0,hi0⟩:=open_ratsW Try.underlying22 ratTy (okWide_slice Try.underlying22 (hval 0 22 v0 rfl rfl)) h0
  obtain⟨a1,rfl,rfl,rfl,w1⟩:=open_int Try.underlying5 (hval 1 5 v1 rfl rfl) h1
  obtain⟨a2,rfl,rfl,rfl,w2⟩:=open_int Try.underlying5 (hval 2 5 v2 rfl rfl) h2
  clear hA0 hval0
  simp only[List.append_nil]at hW' hAk
  refine(CallV.fits (TransformRectangles_spec hrs0 (Nat.lt_of_le_of_lt hl0 (by decide)) (bounds_u8 w1).1 (bounds_u8 w2).1) (worldView_in W)).mono λe W' ⟨he,hg⟩ => ?_
  subst he
  exact⟨_,rfl,post_of_read laid types hW' hAk (λ_ _ _=>(trodAll_cons_mk (shut_bool Try.underlying4 _) trodAll_mk0)) rfl (λ_=>rfl) hg⟩
theorem c1:(Rows.transformRectanglesRow.inPlace==Try.prog.inPlace 4)=true:=by kernel_rfl
theorem c2:(Rows.transformRectanglesRow.unfollowed==Try.prog.unfollowed 4)=true:=by kernel_rfl
theorem c3:(Rows.transformRectanglesRow.recurses==Try.prog.recurses 4)=true:=by kernel_rfl
theorem c4:(Rows.transformRectanglesRow.named==Try.prog.varsNamed 4)=true:=by kernel_rfl
theorem c5:mapsRowed Try.prog=true:=by kernel_rfl
theorem c6:(Rows.transformRectanglesRow.plainKeys==Try.prog.plainKeys)=true:=by kernel_rfl
theorem c7:Try.prog.stopsHeard=true:=by kernel_rfl
theorem c8:Try.prog.mayEnter=true:=by kernel_rfl
theorem c9:(Rows.transformRectanglesRow.lifted==Try.prog.liftsFinal)=true:=by kernel_rfl
theorem c10:(Try.prog.make==some Rows.transformRectanglesRow.make)=true:=by kernel_rfl
theorem closed:joinedFacts Try.prog 4 Try.f4 Rows.transformRectanglesSpec Rows.transformRectanglesRow=true:=by
  unfold joinedFacts
  rw[c1,c2,c3,c4,c5,c6,c7,c8,c9,c10,laid]
  kernel_rfl
theorem over:Rows.transformRectanglesRow.holds Try.pinned (OpenSpec.ofChange Rows.transformRectanglesSpec) :=
  OpenClaim.holds_of_wide 4 Try.f4 rfl rfl rfl rfl rfl rfl rfl ⟨rfl,rfl,rfl,rfl,rfl⟩ rfl rfl rfl rfl rfl (by kernel_rfl) Try.func4 closed
    (of_decide_eq_true (by kernel_rfl)) (by unfold Func.isWrapper; first|(rw[if_pos (by decide +kernel)]; kernel_rfl)|(rw[if_neg (by decide +kernel)]; exact⟨rfl,rfl⟩))
    (λos started H enc _=>lifted os started H enc)
theorem proved:Rows.TransformRectanglesSaid :=
  over
end Go.Proofs.Ytfdaofhjkdabbaa.transformRectangles
