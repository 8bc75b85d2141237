/- BoxIncludes returns true for every input, and the input reads as it did. Conditions: none. -/
import Derived.Test.YtkibfmnkkiakoaaGreatPartF
import Derived.Test.YtkibfmnkkiakoaaGreatRows
namespace Go.Proofs.YtkibfmnkkiakoaaGreat.boxIncludes
open Go Go.Vc Go.ChangeShapes Go.WideShapes Go.ChangeAt Go.RowKit

theorem own : ownKnob Tryz.prog.godebug = none := by kernel_rfl
theorem laid : laidOutB Tryz.prog = true := by kernel_rfl
theorem types : ∀ t ∈ Tryz.f14.params.toList, Tryz.prog.readableRec t = true ∧ t < Tryz.prog.types.size := by
  rw [Tryz.params14]
  intro t ht
  simp only [List.mem_cons, List.not_mem_nil, or_false] at ht
  rcases ht with rfl | rfl | rfl <;> exact ⟨by kernel_rfl, by decide +kernel⟩

set_option maxRecDepth 100000 in
theorem Z0v (os : Os) (started : os.Started) (H : Type) (enc : TypeId × Value → H) :
    ReturnsInHanded {} Tryz.checked os 14 .any (Rows.boxIncludesSpec.pre6 enc Tryz.prog Tryz.f14 Rows.boxIncludesRow.domain false) (Rows.boxIncludesSpec.post enc Tryz.prog Tryz.f14 false true false false) := by
  refine returnsInHanded_of_change (C := Tryz.checked) own started (by kernel_rfl) Tryz.func14
    (ChangeSpec.witness6 (enc := enc) (C := Tryz.checked) false ⟨#[], #[.agg #[.int .u64 0, .int .u64 0, .int .u64 0, .int .u64 0], .agg #[.int .u64 0, .int .u64 0, .int .u64 0, .int .u64 0], .agg #[.int .u8 0, .int .u8 0, .int .u8 0, .int .u8 0]], []⟩ 8 (by kernel_rfl) (by kernel_rfl) (by kernel_rfl) (by kernel_rfl)) ?_
  intro W base args ds gs before hval0 hW hcnd _
  have hval : ∀ (j : Nat) t v, Tryz.f14.params[j]? = some t → args[j]? = some v → Value.okWide Tryz.prog W .any base t v := hval0
  have hW' := hW
  obtain ⟨p, q, hA0, hV, rfl, hfz, hnd⟩ := hW
  have hA : DataW.TrodAll enc Tryz.prog W 0 (fun _ => true) true Tryz.f14.params.toList args.toList ds p := hA0
  have hAk : DataW.TrodAll enc Tryz.prog W 0 (fun _ => true) true Tryz.f14.params.toList args.toList ds p := hA0
  rw [Tryz.params14] at hA hval
  obtain ⟨v0, vs0, d0, ds0, p0, q0, hargs, rfl, rfl, h0, r0⟩ := trodAll_cons hA
  obtain ⟨v1, vs1, d1, ds1, p1, q1, rfl, rfl, rfl, h1, r1⟩ := trodAll_cons r0
  obtain ⟨v2, vs2, d2, ds2, p2, q2, rfl, rfl, rfl, h2, r2⟩ := trodAll_cons r1
  obtain ⟨rfl, rfl, rfl⟩ := trodAll_nil r2
  obtain rfl : args = #[v0, v1, v2] := by cases args; simp_all
  obtain ⟨rfl, rfl⟩ := trodVars_none hV
  obtain ⟨x0, rfl, xa0⟩ := u0g (t := 26) (by kernel_rfl) h0
  obtain ⟨x1, rfl, xa1⟩ := u0g (t := 26) (by kernel_rfl) h1
  obtain ⟨x2, rfl, xa2, xb2⟩ := P0k (t := 125) (by kernel_rfl) h2
  clear hA0 hval0
  simp only [List.append_nil] at hW' hAk
  refine (a00.fits (W0c xa0 xa1 xa2 xb2) T0k).mono fun e W' ⟨he, hg⟩ => ?_
  subst he
  exact ⟨_, rfl, C0k laid types hW' hAk (fun _ _ _ => (trodAll_cons_mk (shut_bool Tryz.underlying4 _) trodAll_mk0)) rfl (fun _ => rfl) hg⟩

theorem c1 : (Rows.boxIncludesRow.inPlace == Tryz.prog.inPlace 14) = true := by kernel_rfl
theorem c2 : (Rows.boxIncludesRow.unfollowed == Tryz.prog.unfollowed 14) = true := by kernel_rfl
theorem c3 : (Rows.boxIncludesRow.recurses == Tryz.prog.recurses 14) = true := by kernel_rfl
theorem c4 : (Rows.boxIncludesRow.named == Tryz.prog.varsNamed 14) = true := by kernel_rfl
theorem a0w : joinedFacts Tryz.prog 14 Tryz.f14 Rows.boxIncludesSpec Rows.boxIncludesRow = true := by
  unfold joinedFacts
  rw [c1, c2, c3, c4]
  kernel_rfl

theorem over : Rows.boxIncludesRow.holds Tryz.pinned (OpenSpec.ofChange Rows.boxIncludesSpec) :=
  OpenClaim.holds_of_wide 14 Tryz.f14 rfl rfl rfl rfl rfl rfl rfl ⟨rfl, rfl, rfl, rfl, rfl⟩ rfl rfl rfl rfl rfl (by kernel_rfl) Tryz.func14 a0w
    (of_decide_eq_true (by kernel_rfl)) (by unfold Func.isWrapper; first | (rw [if_pos (by decide +kernel)]; kernel_rfl) | (rw [if_neg (by decide +kernel)]; exact ⟨rfl, rfl⟩))
    (fun os started H enc _ => Z0v os started H enc)

theorem proved : Rows.BoxIncludesSaid :=
  over
end Go.Proofs.YtkibfmnkkiakoaaGreat.boxIncludes
