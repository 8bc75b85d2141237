/- ScanDeadNamed returns true for every input, and the input reads as it did. Conditions: none. -/
import Derived.Test.YtfdaofhjkdabbaaGreatPartE
import Derived.Test.YtfdaofhjkdabbaaGreatRows
namespace Go.Proofs.YtfdaofhjkdabbaaGreat.scanDeadNamed
open Go Go.Vc Go.ChangeShapes Go.WideShapes Go.ChangeAt Go.RowKit
theorem own:ownKnob Tryz.prog.godebug=none:=by kernel_rfl
theorem laid:laidOutB Tryz.prog=true:=by kernel_rfl
theorem types:∀t∈Tryz.f9.params.toList,Tryz.prog.readableRec t=true/\t<Tryz.prog.types.size:=by
  rw[Tryz.params9]
  intro t ht
  simp only[List.mem_cons,List.not_mem_nil,or_false]at ht
  rcases ht with rfl|rfl|rfl|rfl|rfl|rfl|rfl<;>exact⟨by kernel_rfl,by decide +kernel⟩
set_option maxRecDepth 100000 in
theorem lifted(os:Os)(started:os.Started)(H:Type)(enc:TypeId×Value->H) :
    ReturnsInHanded {} Tryz.checked os 9 .any (Rows.scanDeadNamedSpec.pre6 enc Tryz.prog Tryz.f9 Rows.scanDeadNamedRow.domain false) (Rows.scanDeadNamedSpec.post enc Tryz.prog Tryz.f9 false true false false):=by
  refine returnsInHanded_of_change (C:=Tryz.checked) own started (by kernel_rfl) Tryz.func9
    (ChangeSpec.witness6 (enc:=enc) (C:=Tryz.checked) false ⟨#[],#[.int .u8 0,.int .u8 0,.int .u8 0,.int .u8 0,.slice none 0 0,.int .u8 0,.int .u8 0],[]⟩ 8 (by kernel_rfl) (by kernel_rfl) (by kernel_rfl) (by kernel_rfl)) ?_
  intro W base args ds gs before hval0 hW hcnd _
  have hval:∀(j:Nat) t v,Tryz.f9.params[j]?=some t->args[j]?=some v->Value.okWide Tryz.prog W .any base t v:=hval0
  have hW':=hW
  obtain⟨p,q,hA0,hV,rfl,hfz,hnd⟩:=hW
  have hA:DataW.TrodAll enc Tryz.prog W 0 (λ_=>true) true Tryz.f9.params.toList args.toList ds p:=hA0
  have hAk:DataW.TrodAll enc Tryz.prog W 0 (λ_=>true) true Tryz.f9.params.toList args.toList ds p:=hA0
  rw[Tryz.params9]at hA hval
  obtain⟨v0,vs0,d0,ds0,p0,q0,hargs,rfl,rfl,h0,r0⟩:=trodAll_cons hA
  obtain⟨v1,vs1,d1,ds1,p1,q1,rfl,rfl,rfl,h1,r1⟩:=trodAll_cons r0
  obtain⟨v2,vs2,d2,ds2,p2,q2,rfl,rfl,rfl,h2,r2⟩:=trodAll_cons r1
  obtain⟨v3,vs3,d3,ds3,p3,q3,rfl,rfl,rfl,h3,r3⟩:=trodAll_cons r2
  obtain⟨v4,vs4,d4,ds4,p4,q4,rfl,rfl,rfl,h4,r4⟩:=trodAll_cons r3
  obtain⟨v5,vs5,d5,ds5,p5,q5,rfl,rfl,rfl,h5,r5⟩:=trodAll_cons r4
  obtain⟨v6,vs6,d6,ds6,p6,q6,rfl,rfl,rfl,h6,r6⟩:=trodAll_cons r5
  obtain⟨rfl,rfl,rfl⟩:=trodAll_nil r6
  obtain rfl:args=#[v0,v1,v2,v3,v4,v5,v6]:=by cases args; simp_all
  obtain⟨rfl,rfl⟩:=trodVars_none hV
  obtain⟨a0,rfl,rfl,rfl,w0⟩:=open_int Tryz.underlying5 (hval 0 5 v0 rfl rfl) h0
  obtain⟨a1,rfl,rfl,rfl,w1⟩:=open_int Tryz.underlying5 (hval 1 5 v1 rfl rfl) h1
  obtain⟨a2,rfl,rfl,rfl,w2⟩:=open_int Tryz.underlying5 (hval 2 5 v2 rfl rfl) h2
  obtain⟨a3,rfl,rfl,rfl,w3⟩:=open_int Tryz.underlying5 (hval 3 5 v3 rfl rfl) h3
  obtain⟨s4,ks4,rfl,hks4,hl4,hi4⟩:=F0m Tryz.underlying166 (by kernel_rfl) (by kernel_rfl) (okWide_slice Tryz.underlying166 (hval 4 166 v4 rfl rfl)) h4
  obtain⟨a5,rfl,rfl,rfl,w5⟩:=open_int Tryz.underlying5 (hval 5 5 v5 rfl rfl) h5
  obtain⟨a6,rfl,rfl,rfl,w6⟩:=open_int Tryz.underlying5 (hval 6 5 v6 rfl rfl) h6
  clear hA0 hval0
  simp only[List.append_nil]at hW' hAk
  refine(a00.fits (a0c (bounds_u8 w0) (bounds_u8 w1) (bounds_u8 w2) (bounds_u8 w3) (bounds_u8 w5) (bounds_u8 w6) hks4 hi4 hl4) (x0k W)).mono λe W' ⟨he,hg⟩ => ?_
  subst he
  exact⟨_,rfl,u0k laid types hW' hAk (λ_ _ _=>(trodAll_cons_mk (shut_bool Tryz.underlying4 _) trodAll_mk0)) rfl (λ_=>rfl) hg⟩
theorem c1:(Rows.scanDeadNamedRow.inPlace==Tryz.prog.inPlace 9)=true:=by kernel_rfl
theorem c2:(Rows.scanDeadNamedRow.unfollowed==Tryz.prog.unfollowed 9)=true:=by kernel_rfl
theorem c3:(Rows.scanDeadNamedRow.recurses==Tryz.prog.recurses 9)=true:=by kernel_rfl
theorem c4:(Rows.scanDeadNamedRow.named==Tryz.prog.varsNamed 9)=true:=by kernel_rfl
theorem c5:mapsRowed Tryz.prog=true:=by kernel_rfl
theorem c6:(Rows.scanDeadNamedRow.plainKeys==Tryz.prog.plainKeys)=true:=by kernel_rfl
theorem c7:Tryz.prog.stopsHeard=true:=by kernel_rfl
theorem c8:Tryz.prog.mayEnter=true:=by kernel_rfl
theorem c9:(Rows.scanDeadNamedRow.lifted==Tryz.prog.liftsFinal)=true:=by kernel_rfl
theorem c10:(Tryz.prog.make==some Rows.scanDeadNamedRow.make)=true:=by kernel_rfl
theorem w0x:joinedFacts Tryz.prog 9 Tryz.f9 Rows.scanDeadNamedSpec Rows.scanDeadNamedRow=true:=by
  unfold joinedFacts
  rw[c1,c2,c3,c4,c5,c6,c7,c8,c9,c10,laid]
  kernel_rfl
theorem over:Rows.scanDeadNamedRow.holds Tryz.pinned (OpenSpec.ofChange Rows.scanDeadNamedSpec) :=
  OpenClaim.holds_of_wide 9 Tryz.f9 rfl rfl rfl rfl rfl rfl rfl ⟨rfl,rfl,rfl,rfl,rfl⟩ rfl rfl rfl rfl rfl (by kernel_rfl) Tryz.func9 w0x
    (of_decide_eq_true (by kernel_rfl)) (by unfold Func.isWrapper; first|(rw[if_pos (by decide +kernel)]; kernel_rfl)|(rw[if_neg (by decide +kernel)]; exact⟨rfl,rfl⟩))
    (λos started H enc _=>lifted os started H enc)
theorem proved:Rows.ScanDeadNamedSaid :=
  over
end Go.Proofs.YtfdaofhjkdabbaaGreat.scanDeadNamed
