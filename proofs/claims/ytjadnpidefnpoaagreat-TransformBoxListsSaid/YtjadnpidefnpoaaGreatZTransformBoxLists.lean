/- TransformBoxLists returns true for every input, and the input reads as it did. Conditions: none. -/
import Derived.Test.YtjadnpidefnpoaaGreatPartF
import Derived.Test.YtjadnpidefnpoaaGreatRows
namespace Go.Proofs.YtjadnpidefnpoaaGreat.transformBoxLists
open Go Go.Vc Go.ChangeShapes Go.WideShapes Go.ChangeAt Go.RowKit
theorem own:ownKnob Tryz.prog.godebug=none:=by kernel_rfl
theorem laid:laidOutB Tryz.prog=true:=by kernel_rfl
theorem i17:F15 Tryz.prog 23:=⟨⟨_,_,_,Tryz.underlying23,⟨rfl,rfl,rfl⟩,⟨by kernel_rfl,by kernel_rfl,by kernel_rfl⟩,by kernel_rfl,by kernel_rfl,by kernel_rfl⟩,by kernel_rfl⟩
theorem types:∀t∈Tryz.f5.params.toList,Tryz.prog.readableRec t=true/\t<Tryz.prog.types.size:=by
  rw[Tryz.params5]
  intro t ht
  simp only[List.mem_cons,List.not_mem_nil,or_false]at ht
  rcases ht with rfl|rfl|rfl|rfl|rfl<;>exact⟨by kernel_rfl,by decide +kernel⟩
set_option maxRecDepth 100000 in
theorem lifted(os:Os)(started:os.Started)(H:Type)(enc:TypeId×Value->H) :
    ReturnsInHanded {} Tryz.checked os 5 .any (Rows.transformBoxListsSpec.pre6 enc Tryz.prog Tryz.f5 Rows.transformBoxListsRow.domain false) (Rows.transformBoxListsSpec.post enc Tryz.prog Tryz.f5 false true false false):=by
  refine returnsInHanded_of_change (C:=Tryz.checked) own started (by kernel_rfl) Tryz.func5
    (ChangeSpec.witness6 (enc:=enc) (C:=Tryz.checked) false ⟨#[],#[.slice none 0 0,.slice none 0 0,.int .u8 0,.agg #[.int .i64 0,.int .i64 0],.int .i64 0],[]⟩ 8 (by kernel_rfl) (by kernel_rfl) (by kernel_rfl) (by kernel_rfl)) ?_
  intro W base args ds gs before hval0 hW hcnd _
  have hval:∀(j:Nat) t v,Tryz.f5.params[j]?=some t->args[j]?=some v->Value.okWide Tryz.prog W .any base t v:=hval0
  have hW':=hW
  obtain⟨p,q,hA0,hV,rfl,hfz,hnd⟩:=hW
  have hA:DataW.TrodAll enc Tryz.prog W 0 (λ_=>true) true Tryz.f5.params.toList args.toList ds p:=hA0
  have hAk:DataW.TrodAll enc Tryz.prog W 0 (λ_=>true) true Tryz.f5.params.toList args.toList ds p:=hA0
  rw[Tryz.params5]at hA hval
  obtain⟨v0,vs0,d0,ds0,p0,q0,hargs,rfl,rfl,h0,r0⟩:=trodAll_cons hA
  obtain⟨v1,vs1,d1,ds1,p1,q1,rfl,rfl,rfl,h1,r1⟩:=trodAll_cons r0
  obtain⟨v2,vs2,d2,ds2,p2,q2,rfl,rfl,rfl,h2,r2⟩:=trodAll_cons r1
  obtain⟨v3,vs3,d3,ds3,p3,q3,rfl,rfl,rfl,h3,r3⟩:=trodAll_cons r2
  obtain⟨v4,vs4,d4,ds4,p4,q4,rfl,rfl,rfl,h4,r4⟩:=trodAll_cons r3
  obtain⟨rfl,rfl,rfl⟩:=trodAll_nil r4
  obtain rfl:args=#[v0,v1,v2,v3,v4]:=by cases args; simp_all
  obtain⟨rfl,rfl⟩:=trodVars_none hV
  obtain⟨s0,rs0,rfl,hrs0,hl0,hi0⟩:=b0p Tryz.underlying29 i17 (okWide_slice Tryz.underlying29 (hval 0 29 v0 rfl rfl)) h0
  obtain⟨s1,rs1,rfl,hrs1,hl1,hi1⟩:=b0p Tryz.underlying29 i17 (okWide_slice Tryz.underlying29 (hval 1 29 v1 rfl rfl)) h1
  obtain⟨a2,rfl,rfl,rfl,w2⟩:=open_int Tryz.underlying5 (hval 2 5 v2 rfl rfl) h2
  obtain⟨g3x,rfl⟩:=q11 (t:=27) (by kernel_rfl) h3
  obtain⟨a4,rfl,rfl,rfl,w4⟩:=open_int Tryz.underlying3 (hval 4 3 v4 rfl rfl) h4
  clear hA0 hval0
  simp only[List.append_nil]at hW' hAk
  refine(a00.fits (e0f hrs0 hrs1 (bounds_u8 w2).1) (m0t W)).mono λe W' ⟨he,hg⟩ => ?_
  subst he
  exact⟨_,rfl,i0t laid types hW' hAk (λ_ _ _=>(trodAll_cons_mk (shut_bool Tryz.underlying4 _) trodAll_mk0)) rfl (λ_=>rfl) hg⟩
theorem c1:(Rows.transformBoxListsRow.inPlace==Tryz.prog.inPlace 5)=true:=by kernel_rfl
theorem c2:(Rows.transformBoxListsRow.unfollowed==Tryz.prog.unfollowed 5)=true:=by kernel_rfl
theorem c3:(Rows.transformBoxListsRow.recurses==Tryz.prog.recurses 5)=true:=by kernel_rfl
theorem c4:(Rows.transformBoxListsRow.named==Tryz.prog.varsNamed 5)=true:=by kernel_rfl
theorem c5:mapsRowed Tryz.prog=true:=by kernel_rfl
theorem c6:(Rows.transformBoxListsRow.plainKeys==Tryz.prog.plainKeys)=true:=by kernel_rfl
theorem c7:Tryz.prog.stopsHeard=true:=by kernel_rfl
theorem c8:Tryz.prog.mayEnter=true:=by kernel_rfl
theorem c9:(Rows.transformBoxListsRow.lifted==Tryz.prog.liftsFinal)=true:=by kernel_rfl
theorem c10:(Tryz.prog.make==some Rows.transformBoxListsRow.make)=true:=by kernel_rfl
theorem j17:joinedFacts Tryz.prog 5 Tryz.f5 Rows.transformBoxListsSpec Rows.transformBoxListsRow=true:=by
  unfold joinedFacts
  rw[c1,c2,c3,c4,c5,c6,c7,c8,c9,c10,laid]
  kernel_rfl
theorem over:Rows.transformBoxListsRow.holds Tryz.pinned (OpenSpec.ofChange Rows.transformBoxListsSpec) :=
  OpenClaim.holds_of_wide 5 Tryz.f5 rfl rfl rfl rfl rfl rfl rfl ⟨rfl,rfl,rfl,rfl,rfl⟩ rfl rfl rfl rfl rfl (by kernel_rfl) Tryz.func5 j17
    (of_decide_eq_true (by kernel_rfl)) (by unfold Func.isWrapper; first|(rw[if_pos (by decide +kernel)]; kernel_rfl)|(rw[if_neg (by decide +kernel)]; exact⟨rfl,rfl⟩))
    (λos started H enc _=>lifted os started H enc)
theorem proved:Rows.TransformBoxListsSaid :=
  over
end Go.Proofs.YtjadnpidefnpoaaGreat.transformBoxLists
