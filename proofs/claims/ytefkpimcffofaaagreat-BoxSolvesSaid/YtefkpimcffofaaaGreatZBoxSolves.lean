/- BoxSolves returns true for every input, and the input reads as it did. Conditions: none. -/
import Derived.Test.YtefkpimcffofaaaGreatPartF
import Derived.Test.YtefkpimcffofaaaGreatRows
namespace Go.Proofs.YtefkpimcffofaaaGreat.boxSolves
open Go Go.Vc Go.ChangeShapes Go.WideShapes Go.ChangeAt Go.RowKit

theorem own : ownKnob Tryz.prog.godebug = none := by kernel_rfl
theorem laid : laidOutB Tryz.prog = true := by kernel_rfl
theorem q0x : T0t Tryz.prog 39 := ⟨⟨_, _, _, Tryz.underlying39, ⟨rfl, rfl, rfl⟩, ⟨by kernel_rfl, by kernel_rfl, by kernel_rfl⟩, by kernel_rfl, by kernel_rfl, by kernel_rfl⟩, by kernel_rfl⟩
theorem types : ∀ t ∈ Tryz.f3.params.toList, Tryz.prog.readableRec t = true ∧ t < Tryz.prog.types.size := by
  rw [Tryz.params3]
  intro t ht
  simp only [List.mem_cons, List.not_mem_nil, or_false] at ht
  rcases ht with rfl | rfl | rfl <;> exact ⟨by kernel_rfl, by decide +kernel⟩

set_option maxRecDepth 100000 in
theorem s0x (os : Os) (started : os.Started) (H : Type) (enc : TypeId × Value → H) :
    ReturnsInHanded {} Tryz.checked os 3 .any (Rows.boxSolvesSpec.pre6 enc Tryz.prog Tryz.f3 Rows.boxSolvesRow.domain false) (Rows.boxSolvesSpec.post enc Tryz.prog Tryz.f3 false true false false) := by
  refine returnsInHanded_of_change (C := Tryz.checked) own started (by kernel_rfl) Tryz.func3
    (ChangeSpec.witness6 (enc := enc) (C := Tryz.checked) false ⟨#[], #[.slice none 0 0, .slice none 0 0, .int .u8 0], []⟩ 8 (by kernel_rfl) (by kernel_rfl) (by kernel_rfl) (by kernel_rfl)) ?_
  intro W base args ds gs before hval0 hW hcnd _
  have hval : ∀ (j : Nat) t v, Tryz.f3.params[j]? = some t → args[j]? = some v → Value.okWide Tryz.prog W .any base t v := hval0
  have hW' := hW
  obtain ⟨p, q, hA0, hV, rfl, hfz, hnd⟩ := hW
  have hA : DataW.TrodAll enc Tryz.prog W 0 (fun _ => true) true Tryz.f3.params.toList args.toList ds p := hA0
  have hAk : DataW.TrodAll enc Tryz.prog W 0 (fun _ => true) true Tryz.f3.params.toList args.toList ds p := hA0
  rw [Tryz.params3] at hA hval
  obtain ⟨v0, vs0, d0, ds0, p0, q0, hargs, rfl, rfl, h0, r0⟩ := trodAll_cons hA
  obtain ⟨v1, vs1, d1, ds1, p1, q1, rfl, rfl, rfl, h1, r1⟩ := trodAll_cons r0
  obtain ⟨v2, vs2, d2, ds2, p2, q2, rfl, rfl, rfl, h2, r2⟩ := trodAll_cons r1
  obtain ⟨rfl, rfl, rfl⟩ := trodAll_nil r2
  obtain rfl : args = #[v0, v1, v2] := by cases args; simp_all
  obtain ⟨rfl, rfl⟩ := trodVars_none hV
  obtain ⟨s0, rs0, rfl, hrs0, hl0, hi0⟩ := X0p Tryz.underlying22 Tryz.underlying23 (by kernel_rfl) q0x (okWide_slice Tryz.underlying22 (hval 0 22 v0 rfl rfl)) h0
  obtain ⟨s1, rs1, rfl, hrs1, hl1, hi1⟩ := W0p Tryz.underlying23 q0x (okWide_slice Tryz.underlying23 (hval 1 23 v1 rfl rfl)) h1
  obtain ⟨a2, rfl, rfl, rfl, w2⟩ := open_int Tryz.underlying5 (hval 2 5 v2 rfl rfl) h2
  clear hA0 hval0
  simp only [List.append_nil] at hW' hAk
  refine (a00.fits (A0g hrs0 hrs1 hl0 hi0 hi1 (bounds_u8 w2).1 (bounds_u8 w2).2) (e0l W)).mono fun e W' ⟨he, hg⟩ => ?_
  subst he
  exact ⟨_, rfl, d0l laid types hW' hAk (fun _ _ _ => (trodAll_cons_mk (shut_bool Tryz.underlying4 _) trodAll_mk0)) rfl (fun _ => rfl) hg⟩

theorem c1 : (Rows.boxSolvesRow.inPlace == Tryz.prog.inPlace 3) = true := by kernel_rfl
theorem c2 : (Rows.boxSolvesRow.unfollowed == Tryz.prog.unfollowed 3) = true := by kernel_rfl
theorem c3 : (Rows.boxSolvesRow.recurses == Tryz.prog.recurses 3) = true := by kernel_rfl
theorem c4 : (Rows.boxSolvesRow.named == Tryz.prog.varsNamed 3) = true := by kernel_rfl
theorem t0x : joinedFacts Tryz.prog 3 Tryz.f3 Rows.boxSolvesSpec Rows.boxSolvesRow = true := by
  unfold joinedFacts
  rw [c1, c2, c3, c4]
  kernel_rfl

theorem over : Rows.boxSolvesRow.holds Tryz.pinned (OpenSpec.ofChange Rows.boxSolvesSpec) :=
  OpenClaim.holds_of_wide 3 Tryz.f3 rfl rfl rfl rfl rfl rfl rfl ⟨rfl, rfl, rfl, rfl, rfl⟩ rfl rfl rfl rfl rfl (by kernel_rfl) Tryz.func3 t0x
    (of_decide_eq_true (by kernel_rfl)) (by unfold Func.isWrapper; first | (rw [if_pos (by decide +kernel)]; kernel_rfl) | (rw [if_neg (by decide +kernel)]; exact ⟨rfl, rfl⟩))
    (fun os started H enc _ => s0x os started H enc)

theorem proved : Rows.BoxSolvesSaid :=
  over
end Go.Proofs.YtefkpimcffofaaaGreat.boxSolves
