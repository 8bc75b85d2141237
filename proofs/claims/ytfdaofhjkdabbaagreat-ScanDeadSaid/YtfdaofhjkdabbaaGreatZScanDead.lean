/- ScanDead returns true for every input, and the input reads as it did. Conditions: none. -/
import Derived.Test.YtfdaofhjkdabbaaGreatPartF
import Derived.Test.YtfdaofhjkdabbaaGreatRows
namespace Go.Proofs.YtfdaofhjkdabbaaGreat.scanDead
open Go Go.Vc Go.ChangeShapes Go.WideShapes Go.ChangeAt Go.RowKit
theorem own:ownKnob Tryz.prog.godebug=none:=by kernel_rfl
theorem laid:laidOutB Tryz.prog=true:=by kernel_rfl
theorem w14:c12 Tryz.prog 100:=⟨⟨_,_,_,Tryz.underlying100,⟨rfl,rfl,rfl⟩,⟨by kernel_rfl,by kernel_rfl,by kernel_rfl⟩,by kernel_rfl,by kernel_rfl,by kernel_rfl⟩,by kernel_rfl⟩
theorem types:∀t∈Tryz.f10.params.toList,Tryz.prog.readableRec t=true/\t<Tryz.prog.types.size:=by
  rw[Tryz.params10]
  intro t ht
  simp only[List.mem_cons,List.not_mem_nil,or_false]at ht
  rcases ht with rfl|rfl<;>exact⟨by kernel_rfl,by decide +kernel⟩
set_option maxRecDepth 100000 in
theorem lifted(os:Os)(started:os.Started)(H:Type)(enc:TypeId×Value->H) :
    ReturnsInHanded {} Tryz.checked os 10 .any (Rows.scanDeadSpec.pre6 enc Tryz.prog Tryz.f10 Rows.scanDeadRow.domain false) (Rows.scanDeadSpec.post enc Tryz.prog Tryz.f10 false true false false):=by
  refine returnsInHanded_of_change (C:=Tryz.checked) own started (by kernel_rfl) Tryz.func10
    (ChangeSpec.witness6 (enc:=enc) (C:=Tryz.checked) false ⟨#[],#[.slice none 0 0,.agg #[.int .i64 0,.int .i64 0,.int .i64 0]],[]⟩ 8 (by kernel_rfl) (by kernel_rfl) (by kernel_rfl) (by kernel_rfl)) ?_
  intro W base args ds gs before hval0 hW hcnd _
  have hval:∀(j:Nat) t v,Tryz.f10.params[j]?=some t->args[j]?=some v->Value.okWide Tryz.prog W .any base t v:=hval0
  have hW':=hW
  obtain⟨p,q,hA0,hV,rfl,hfz,hnd⟩:=hW
  have hA:DataW.TrodAll enc Tryz.prog W 0 (λ_=>true) true Tryz.f10.params.toList args.toList ds p:=hA0
  have hAk:DataW.TrodAll enc Tryz.prog W 0 (λ_=>true) true Tryz.f10.params.toList args.toList ds p:=hA0
  rw[Tryz.params10]at hA hval
  obtain⟨v0,vs0,d0,ds0,p0,q0,hargs,rfl,rfl,h0,r0⟩:=trodAll_cons hA
  obtain⟨v1,vs1,d1,ds1,p1,q1,rfl,rfl,rfl,h1,r1⟩:=trodAll_cons r0
  obtain⟨rfl,rfl,rfl⟩:=trodAll_nil r1
  obtain rfl:args=#[v0,v1]:=by cases args; simp_all
  obtain⟨rfl,rfl⟩:=trodVars_none hV
  obtain⟨s0,ks0,rfl,hks0,hl0,hi0⟩:=b0t Tryz.underlying179 Tryz.underlying180 (by kernel_rfl) (by kernel_rfl) (by kernel_rfl) (okWide_slice Tryz.underlying179 (hval 0 179 v0 rfl rfl)) h0
  obtain⟨r1x,hr1x,rfl⟩:=j10 w14 h1
  clear hA0 hval0
  simp only[List.append_nil]at hW' hAk
  refine(a00.fits (f0o hks0 hi0 hr1x) (t0q W)).mono λe W' ⟨he,hg⟩ => ?_
  subst he
  exact⟨_,rfl,q0q laid types hW' hAk (λ_ _ _=>(trodAll_cons_mk (shut_bool Tryz.underlying4 _) trodAll_mk0)) rfl (λ_=>rfl) hg⟩
theorem c1:(Rows.scanDeadRow.inPlace==Tryz.prog.inPlace 10)=true:=by kernel_rfl
theorem c2:(Rows.scanDeadRow.unfollowed==Tryz.prog.unfollowed 10)=true:=by kernel_rfl
theorem c3:(Rows.scanDeadRow.recurses==Tryz.prog.recurses 10)=true:=by kernel_rfl
theorem c4:(Rows.scanDeadRow.named==Tryz.prog.varsNamed 10)=true:=by kernel_rfl
theorem c5:mapsRowed Tryz.prog=true:=by kernel_rfl
theorem c6:(Rows.scanDeadRow.plainKeys==Tryz.prog.plainKeys)=true:=by kernel_rfl
theorem c7:Tryz.prog.stopsHeard=true:=by kernel_rfl
theorem c8:Tryz.prog.mayEnter=true:=by kernel_rfl
theorem c9:(Rows.scanDeadRow.lifted==Tryz.prog.liftsFinal)=true:=by kernel_rfl
theorem c10:(Tryz.prog.make==some Rows.scanDeadRow.make)=true:=by kernel_rfl
theorem Y13:joinedFacts Tryz.prog 10 Tryz.f10 Rows.scanDeadSpec Rows.scanDeadRow=true:=by
  unfold joinedFacts
  rw[c1,c2,c3,c4,c5,c6,c7,c8,c9,c10,laid]
  kernel_rfl
theorem over:Rows.scanDeadRow.holds Tryz.pinned (OpenSpec.ofChange Rows.scanDeadSpec) :=
  OpenClaim.holds_of_wide 10 Tryz.f10 rfl rfl rfl rfl rfl rfl rfl ⟨rfl,rfl,rfl,rfl,rfl⟩ rfl rfl rfl rfl rfl (by kernel_rfl) Tryz.func10 Y13
    (of_decide_eq_true (by kernel_rfl)) (by unfold Func.isWrapper; first|(rw[if_pos (by decide +kernel)]; kernel_rfl)|(rw[if_neg (by decide +kernel)]; exact⟨rfl,rfl⟩))
    (λos started H enc _=>lifted os started H enc)
theorem proved:Rows.ScanDeadSaid :=
  over
end Go.Proofs.YtfdaofhjkdabbaaGreat.scanDead
