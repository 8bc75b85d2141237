/- BoxRoots returns true for every input, and the input reads as it did. Conditions: none. -/
import Derived.Test.YtkibfmnkkiakoaaGreatPartE
import Derived.Test.YtkibfmnkkiakoaaGreatRows
namespace Go.Proofs.YtkibfmnkkiakoaaGreat.boxRoots
open Go Go.Vc Go.ChangeShapes Go.WideShapes Go.ChangeAt Go.RowKit

theorem own : ownKnob Tryz.prog.godebug = none := by kernel_rfl
theorem laid : laidOutB Tryz.prog = true := by kernel_rfl
theorem types : ∀ t ∈ Tryz.f9.params.toList, Tryz.prog.readableRec t = true ∧ t < Tryz.prog.types.size := by
  rw [Tryz.params9]
  intro t ht
  simp only [List.mem_cons, List.not_mem_nil, or_false] at ht
  rcases ht with rfl <;> exact ⟨by kernel_rfl, by decide +kernel⟩

set_option maxRecDepth 100000 in
theorem L0w (os : Os) (started : os.Started) (H : Type) (enc : TypeId × Value → H) :
    ReturnsInHanded {} Tryz.checked os 9 .any (Rows.boxRootsSpec.pre6 enc Tryz.prog Tryz.f9 Rows.boxRootsRow.domain false) (Rows.boxRootsSpec.post enc Tryz.prog Tryz.f9 false true false false) := by
  refine returnsInHanded_of_change (C := Tryz.checked) own started (by kernel_rfl) Tryz.func9
    (ChangeSpec.witness6 (enc := enc) (C := Tryz.checked) false ⟨#[], #[.agg #[.int .u64 0, .int .u64 0, .int .u64 0, .int .u64 0]], []⟩ 8 (by kernel_rfl) (by kernel_rfl) (by kernel_rfl) (by kernel_rfl)) ?_
  intro W base args ds gs before hval0 hW hcnd _
  have hval : ∀ (j : Nat) t v, Tryz.f9.params[j]? = some t → args[j]? = some v → Value.okWide Tryz.prog W .any base t v := hval0
  have hW' := hW
  obtain ⟨p, q, hA0, hV, rfl, hfz, hnd⟩ := hW
  have hA : DataW.TrodAll enc Tryz.prog W 0 (fun _ => true) true Tryz.f9.params.toList args.toList ds p := hA0
  have hAk : DataW.TrodAll enc Tryz.prog W 0 (fun _ => true) true Tryz.f9.params.toList args.toList ds p := hA0
  rw [Tryz.params9] at hA hval
  obtain ⟨v0, vs0, d0, ds0, p0, q0, hargs, rfl, rfl, h0, r0⟩ := trodAll_cons hA
  obtain ⟨rfl, rfl, rfl⟩ := trodAll_nil r0
  obtain rfl : args = #[v0] := by cases args; simp_all
  obtain ⟨rfl, rfl⟩ := trodVars_none hV
  obtain ⟨x0, rfl, xa0⟩ := o0q (t := 26) (by kernel_rfl) h0
  clear hA0 hval0
  simp only [List.append_nil] at hW' hAk
  refine (a00.fits (n0j xa0) D0l).mono fun e W' ⟨he, hg⟩ => ?_
  subst he
  exact ⟨_, rfl, g0l laid types hW' hAk (fun _ _ _ => (trodAll_cons_mk (shut_bool Tryz.underlying4 _) trodAll_mk0)) rfl (fun _ => rfl) hg⟩

theorem c1 : (Rows.boxRootsRow.inPlace == Tryz.prog.inPlace 9) = true := by kernel_rfl
theorem c2 : (Rows.boxRootsRow.unfollowed == Tryz.prog.unfollowed 9) = true := by kernel_rfl
theorem c3 : (Rows.boxRootsRow.recurses == Tryz.prog.recurses 9) = true := by kernel_rfl
theorem c4 : (Rows.boxRootsRow.named == Tryz.prog.varsNamed 9) = true := by kernel_rfl
theorem M0w : joinedFacts Tryz.prog 9 Tryz.f9 Rows.boxRootsSpec Rows.boxRootsRow = true := by
  unfold joinedFacts
  rw [c1, c2, c3, c4]
  kernel_rfl

theorem over : Rows.boxRootsRow.holds Tryz.pinned (OpenSpec.ofChange Rows.boxRootsSpec) :=
  OpenClaim.holds_of_wide 9 Tryz.f9 rfl rfl rfl rfl rfl rfl rfl ⟨rfl, rfl, rfl, rfl, rfl⟩ rfl rfl rfl rfl rfl (by kernel_rfl) Tryz.func9 M0w
    (of_decide_eq_true (by kernel_rfl)) (by unfold Func.isWrapper; first | (rw [if_pos (by decide +kernel)]; kernel_rfl) | (rw [if_neg (by decide +kernel)]; exact ⟨rfl, rfl⟩))
    (fun os started H enc _ => L0w os started H enc)

theorem proved : Rows.BoxRootsSaid :=
  over
end Go.Proofs.YtkibfmnkkiakoaaGreat.boxRoots
