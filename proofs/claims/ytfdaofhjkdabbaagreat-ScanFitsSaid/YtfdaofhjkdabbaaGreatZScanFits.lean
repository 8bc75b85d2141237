/- ScanFits returns true for every input, and the input reads as it did. Conditions: none. -/
import Derived.Test.YtfdaofhjkdabbaaGreatPartE
import Derived.Test.YtfdaofhjkdabbaaGreatRows
namespace Go.Proofs.YtfdaofhjkdabbaaGreat.scanFits
open Go Go.Vc Go.ChangeShapes Go.WideShapes Go.ChangeAt Go.RowKit
theorem own:ownKnob Tryz.prog.godebug=none:=by kernel_rfl
theorem laid:laidOutB Tryz.prog=true:=by kernel_rfl
theorem types:∀t∈Tryz.f5.params.toList,Tryz.prog.readableRec t=true∧t<Tryz.prog.types.size:=by
  rw[Tryz.params5]
  intro t ht
  simp only[List.mem_cons,List.not_mem_nil,or_false]at ht
  rcases ht with rfl|rfl<;>exact⟨by kernel_rfl,by decide +kernel⟩
set_option maxRecDepth 100000 in
theorem lifted (os:Os) (started:os.Started) (H:Type) (enc:TypeId×Value→H) :
    ReturnsInHanded {} Tryz.checked os 5 .any (Rows.scanFitsSpec.pre6 enc Tryz.prog Tryz.f5 Rows.scanFitsRow.domain false) (Rows.scanFitsSpec.post enc Tryz.prog Tryz.f5 false true false false):=by
  refine returnsInHanded_of_change (C:=Tryz.checked) own started (by kernel_rfl) Tryz.func5
    (ChangeSpec.witness6 (enc:=enc) (C:=Tryz.checked) false ⟨#[],#[.slice none 0 0,.agg #[.int .i64 0,.int .i64 0,.int .i64 0,.int .i64 0,.int .i64 0,.int .i64 0,.int .i64 0,.int .i64 0,.int .i64 0,.int .i64 0,.int .i64 0,.int .i64 0,.int .i64 0,.int .i64 0,.int .i64 0,.int .i64 0,.int .i64 0,.int .i64 0,.int .i64 0,.int .i64 0,.int .i64 0,.int .i64 0,.int .i64 0,.int .i64 0,.int .i64 0,.int .i64 0,.int .i64 0]],[]⟩ 8 (by kernel_rfl) (by kernel_rfl) (by kernel_rfl) (by kernel_rfl)) ?_
  intro W base args ds gs before hval0 hW hcnd _
  have hval:∀(j:Nat) t v,Tryz.f5.params[j]?=some t→args[j]?=some v→Value.okWide Tryz.prog W .any base t v:=hval0
  have hW':=hW
  obtain⟨p,q,hA0,hV,rfl,hfz,hnd⟩:=hW
  have hA:DataW.TrodAll enc Tryz.prog W 0 (fun _=>true) true Tryz.f5.params.toList args.toList ds p:=hA0
  have hAk:DataW.TrodAll enc Tryz.prog W 0 (fun _=>true) true Tryz.f5.params.toList args.toList ds p:=hA0
  rw[Tryz.params5]at hA hval
  obtain⟨v0,vs0,d0,ds0,p0,q0,hargs,rfl,rfl,h0,r0⟩:=trodAll_cons hA
  obtain⟨v1,vs1,d1,ds1,p1,q1,rfl,rfl,rfl,h1,r1⟩:=trodAll_cons r0
  obtain⟨rfl,rfl,rfl⟩:=trodAll_nil r1
  obtain rfl:args=#[v0,v1]:=by cases args; simp_all
  obtain⟨rfl,rfl⟩:=trodVars_none hV
  obtain⟨s0,ks0,rfl,hks0,hl0,hi0⟩:=u0p Tryz.underlying98 (by kernel_rfl) (by kernel_rfl) (okWide_slice Tryz.underlying98 (hval 0 98 v0 rfl rfl)) h0
  obtain⟨x1,rfl,xa1⟩:=s0p (t:=104) (by kernel_rfl) h1
  clear hA0 hval0
  simp only[List.append_nil]at hW' hAk
  refine(a00.fits (W0l hks0 hi0 xa1) (E0n W)).mono fun e W' ⟨he,hg⟩ => ?_
  subst he
  exact⟨_,rfl,B0n laid types hW' hAk (fun _ _ _=>(trodAll_cons_mk (shut_bool Tryz.underlying4 _) trodAll_mk0)) rfl (fun _=>rfl) hg⟩
theorem c1:(Rows.scanFitsRow.inPlace==Tryz.prog.inPlace 5)=true:=by kernel_rfl
theorem c2:(Rows.scanFitsRow.unfollowed==Tryz.prog.unfollowed 5)=true:=by kernel_rfl
theorem c3:(Rows.scanFitsRow.recurses==Tryz.prog.recurses 5)=true:=by kernel_rfl
theorem c4:(Rows.scanFitsRow.named==Tryz.prog.varsNamed 5)=true:=by kernel_rfl
theorem c5:mapsRowed Tryz.prog=true:=by kernel_rfl
theorem c6:(Rows.scanFitsRow.plainKeys==Tryz.prog.plainKeys)=true:=by kernel_rfl
theorem c7:Tryz.prog.stopsHeard=true:=by kernel_rfl
theorem c8:Tryz.prog.mayEnter=true:=by kernel_rfl
theorem c9:(Rows.scanFitsRow.lifted==Tryz.prog.liftsFinal)=true:=by kernel_rfl
theorem c10:(Tryz.prog.make==some Rows.scanFitsRow.make)=true:=by kernel_rfl
theorem d0x:joinedFacts Tryz.prog 5 Tryz.f5 Rows.scanFitsSpec Rows.scanFitsRow=true:=by
  unfold joinedFacts
  rw[c1,c2,c3,c4,c5,c6,c7,c8,c9,c10,laid]
  kernel_rfl
theorem over:Rows.scanFitsRow.holds Tryz.pinned (OpenSpec.ofChange Rows.scanFitsSpec) :=
  OpenClaim.holds_of_wide 5 Tryz.f5 rfl rfl rfl rfl rfl rfl rfl ⟨rfl,rfl,rfl,rfl,rfl⟩ rfl rfl rfl rfl rfl (by kernel_rfl) Tryz.func5 d0x
    (of_decide_eq_true (by kernel_rfl)) (by unfold Func.isWrapper; first|(rw[if_pos (by decide +kernel)]; kernel_rfl)|(rw[if_neg (by decide +kernel)]; exact⟨rfl,rfl⟩))
    (fun os started H enc _=>lifted os started H enc)
theorem proved:Rows.ScanFitsSaid :=
  over
end Go.Proofs.YtfdaofhjkdabbaaGreat.scanFits
