/- TopFly returns true for every input, and the input reads as it did. Conditions: none. -/
import Derived.Test.YtjadnpidefnpoaaGreatPartF
import Derived.Test.YtjadnpidefnpoaaGreatRows
namespace Go.Proofs.YtjadnpidefnpoaaGreat.topFly
open Go Go.Vc Go.ChangeShapes Go.WideShapes Go.ChangeAt Go.RowKit
theorem own:ownKnob Tryz.prog.godebug=none:=by kernel_rfl
theorem laid:laidOutB Tryz.prog=true:=by kernel_rfl
theorem types:∀t∈Tryz.f4.params.toList,Tryz.prog.readableRec t=true/\t<Tryz.prog.types.size:=by
  rw[Tryz.params4]
  intro t ht
  simp only[List.mem_cons,List.not_mem_nil,or_false]at ht
  rcases ht with rfl|rfl|rfl<;>exact⟨by kernel_rfl,by decide +kernel⟩
set_option maxRecDepth 100000 in
theorem lifted(os:Os)(started:os.Started)(H:Type)(enc:TypeId×Value->H) :
    ReturnsInHanded {} Tryz.checked os 4 .any (Rows.topFlySpec.pre6 enc Tryz.prog Tryz.f4 Rows.topFlyRow.domain false) (Rows.topFlySpec.post enc Tryz.prog Tryz.f4 false true false false):=by
  refine returnsInHanded_of_change (C:=Tryz.checked) own started (by kernel_rfl) Tryz.func4
    (ChangeSpec.witness6 (enc:=enc) (C:=Tryz.checked) false ⟨#[],#[.agg #[.int .i64 0,.int .i64 0,.int .i64 0,.int .i64 0,.int .i64 0,.int .i64 0,.int .i64 0,.int .i64 0,.int .i64 0,.int .i64 0,.int .i64 0,.int .i64 0],.agg #[.int .i64 0,.int .i64 0,.int .i64 0,.int .i64 0,.int .i64 0,.int .i64 0,.int .i64 0,.int .i64 0,.int .i64 0,.int .i64 0,.int .i64 0,.int .i64 0],.agg #[.int .i64 0,.int .i64 0,.int .i64 0,.int .i64 0,.int .i64 0,.int .i64 0]],[]⟩ 8 (by kernel_rfl) (by kernel_rfl) (by kernel_rfl) (by kernel_rfl)) ?_
  intro W base args ds gs before hval0 hW hcnd _
  have hval:∀(j:Nat) t v,Tryz.f4.params[j]?=some t->args[j]?=some v->Value.okWide Tryz.prog W .any base t v:=hval0
  have hW':=hW
  obtain⟨p,q,hA0,hV,rfl,hfz,hnd⟩:=hW
  have hA:DataW.TrodAll enc Tryz.prog W 0 (λ_=>true) true Tryz.f4.params.toList args.toList ds p:=hA0
  have hAk:DataW.TrodAll enc Tryz.prog W 0 (λ_=>true) true Tryz.f4.params.toList args.toList ds p:=hA0
  rw[Tryz.params4]at hA hval
  obtain⟨v0,vs0,d0,ds0,p0,q0,hargs,rfl,rfl,h0,r0⟩:=trodAll_cons hA
  obtain⟨v1,vs1,d1,ds1,p1,q1,rfl,rfl,rfl,h1,r1⟩:=trodAll_cons r0
  obtain⟨v2,vs2,d2,ds2,p2,q2,rfl,rfl,rfl,h2,r2⟩:=trodAll_cons r1
  obtain⟨rfl,rfl,rfl⟩:=trodAll_nil r2
  obtain rfl:args=#[v0,v1,v2]:=by cases args; simp_all
  obtain⟨rfl,rfl⟩:=trodVars_none hV
  obtain⟨x0,rfl,xa0⟩:=m0r (t:=24) (by kernel_rfl) h0
  obtain⟨x1,rfl,xa1⟩:=m0r (t:=24) (by kernel_rfl) h1
  obtain⟨x2,rfl,xa2⟩:=u0z (t:=66) (by kernel_rfl) h2
  clear hA0 hval0
  simp only[List.append_nil]at hW' hAk
  refine(a00.fits (a0t ) (J0q W)).mono λe W' ⟨he,hg⟩ => ?_
  subst he
  exact⟨_,rfl,F0q laid types hW' hAk (λ_ _ _=>(trodAll_cons_mk (shut_bool Tryz.underlying4 _) trodAll_mk0)) rfl (λ_=>rfl) hg⟩
theorem c1:(Rows.topFlyRow.inPlace==Tryz.prog.inPlace 4)=true:=by kernel_rfl
theorem c2:(Rows.topFlyRow.unfollowed==Tryz.prog.unfollowed 4)=true:=by kernel_rfl
theorem c3:(Rows.topFlyRow.recurses==Tryz.prog.recurses 4)=true:=by kernel_rfl
theorem c4:(Rows.topFlyRow.named==Tryz.prog.varsNamed 4)=true:=by kernel_rfl
theorem c5:mapsRowed Tryz.prog=true:=by kernel_rfl
theorem c6:(Rows.topFlyRow.plainKeys==Tryz.prog.plainKeys)=true:=by kernel_rfl
theorem c7:Tryz.prog.stopsHeard=true:=by kernel_rfl
theorem c8:Tryz.prog.mayEnter=true:=by kernel_rfl
theorem c9:(Rows.topFlyRow.lifted==Tryz.prog.liftsFinal)=true:=by kernel_rfl
theorem c10:(Tryz.prog.make==some Rows.topFlyRow.make)=true:=by kernel_rfl
theorem u15:joinedFacts Tryz.prog 4 Tryz.f4 Rows.topFlySpec Rows.topFlyRow=true:=by
  unfold joinedFacts
  rw[c1,c2,c3,c4,c5,c6,c7,c8,c9,c10,laid]
  kernel_rfl
theorem over:Rows.topFlyRow.holds Tryz.pinned (OpenSpec.ofChange Rows.topFlySpec) :=
  OpenClaim.holds_of_wide 4 Tryz.f4 rfl rfl rfl rfl rfl rfl rfl ⟨rfl,rfl,rfl,rfl,rfl⟩ rfl rfl rfl rfl rfl (by kernel_rfl) Tryz.func4 u15
    (of_decide_eq_true (by kernel_rfl)) (by unfold Func.isWrapper; first|(rw[if_pos (by decide +kernel)]; kernel_rfl)|(rw[if_neg (by decide +kernel)]; exact⟨rfl,rfl⟩))
    (λos started H enc _=>lifted os started H enc)
theorem proved:Rows.TopFlySaid :=
  over
end Go.Proofs.YtjadnpidefnpoaaGreat.topFly
