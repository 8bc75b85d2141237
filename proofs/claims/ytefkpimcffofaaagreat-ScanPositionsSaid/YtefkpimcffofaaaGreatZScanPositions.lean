/- ScanPositions returns true for every input, and the input reads as it did. Conditions: none. -/
import Derived.Test.YtefkpimcffofaaaGreatPartE
import Derived.Test.YtefkpimcffofaaaGreatRows
namespace Go.Proofs.YtefkpimcffofaaaGreat.scanPositions
open Go Go.Vc Go.ChangeShapes Go.WideShapes Go.ChangeAt Go.RowKit

theorem own : ownKnob Tryz.prog.godebug = none := by kernel_rfl
theorem laid : laidOutB Tryz.prog = true := by kernel_rfl
theorem ratTy : RatTy Tryz.prog 39 := ⟨⟨_, _, _, Tryz.underlying39, ⟨rfl, rfl, rfl⟩, ⟨by kernel_rfl, by kernel_rfl, by kernel_rfl⟩, by kernel_rfl, by kernel_rfl, by kernel_rfl⟩, by kernel_rfl⟩
theorem types : ∀ t ∈ Tryz.f10.params.toList, Tryz.prog.readableRec t = true ∧ t < Tryz.prog.types.size := by
  rw [Tryz.params10]
  intro t ht
  simp only [List.mem_cons, List.not_mem_nil, or_false] at ht
  rcases ht with rfl | rfl | rfl | rfl <;> exact ⟨by kernel_rfl, by decide +kernel⟩

set_option maxRecDepth 100000 in
theorem lifted (os : Os) (started : os.Started) (H : Type) (enc : TypeId × Value → H) :
    ReturnsInHanded {} Tryz.checked os 10 .any (Rows.scanPositionsSpec.pre6 enc Tryz.prog Tryz.f10 Rows.scanPositionsRow.domain false) (Rows.scanPositionsSpec.post enc Tryz.prog Tryz.f10 false true false false) := by
  refine returnsInHanded_of_change (C := Tryz.checked) own started (by kernel_rfl) Tryz.func10
    (ChangeSpec.witness6 (enc := enc) (C := Tryz.checked) false ⟨#[], #[.agg #[.int .i64 0, .int .i64 0, .int .i64 0, .int .i64 0, .int .i64 0, .int .i64 0, .int .i64 0, .int .i64 0, .int .i64 0, .int .i64 0, .int .i64 0, .int .i64 0, .int .i64 0, .int .i64 0, .int .i64 0, .int .i64 0, .int .i64 0, .int .i64 0, .int .i64 0, .int .i64 0, .int .i64 0, .int .i64 0, .int .i64 0, .int .i64 0, .int .i64 0, .int .i64 0, .int .i64 0], .agg #[.int .i64 0, .int .i64 0, .int .i64 0], .agg #[.int .i64 0, .int .i64 0, .int .i64 0], .agg #[.int .i64 0, .int .i64 0, .int .i64 0, .int .i64 0, .int .i64 0, .int .i64 0, .int .i64 0, .int .i64 0, .int .i64 0]], []⟩ 8 (by kernel_rfl) (by kernel_rfl) (by kernel_rfl) (by kernel_rfl)) ?_
  intro W base args ds gs before hval0 hW hcnd _
  have hval : ∀ (j : Nat) t v, Tryz.f10.params[j]? = some t → args[j]? = some v → Value.okWide Tryz.prog W .any base t v := hval0
  have hW' := hW
  obtain ⟨p, q, hA0, hV, rfl, hfz, hnd⟩ := hW
  have hA : DataW.TrodAll enc Tryz.prog W 0 (fun _ => true) true Tryz.f10.params.toList args.toList ds p := hA0
  have hAk : DataW.TrodAll enc Tryz.prog W 0 (fun _ => true) true Tryz.f10.params.toList args.toList ds p := hA0
  rw [Tryz.params10] at hA hval
  obtain ⟨v0, vs0, d0, ds0, p0, q0, hargs, rfl, rfl, h0, r0⟩ := trodAll_cons hA
  obtain ⟨v1, vs1, d1, ds1, p1, q1, rfl, rfl, rfl, h1, r1⟩ := trodAll_cons r0
  obtain ⟨v2, vs2, d2, ds2, p2, q2, rfl, rfl, rfl, h2, r2⟩ := trodAll_cons r1
  obtain ⟨v3, vs3, d3, ds3, p3, q3, rfl, rfl, rfl, h3, r3⟩ := trodAll_cons r2
  obtain ⟨rfl, rfl, rfl⟩ := trodAll_nil r3
  obtain rfl : args = #[v0, v1, v2, v3] := by cases args; simp_all
  obtain ⟨rfl, rfl⟩ := trodVars_none hV
  obtain ⟨x0, rfl, xa0⟩ := open_lframe (t := 131) (by kernel_rfl) h0
  obtain ⟨r1x, hr1x, rfl⟩ := open_rat ratTy h1
  obtain ⟨r2x, hr2x, rfl⟩ := open_rat ratTy h2
  obtain ⟨x3, rfl, xa3⟩ := open_arr3 (t := 129) (by kernel_rfl) h3
  clear hA0 hval0
  simp only [List.append_nil] at hW' hAk
  refine (CallV.fits (ScanPositions_spec xa0 hr1x hr2x xa3) (worldView_in W)).mono fun e W' ⟨he, hg⟩ => ?_
  subst he
  exact ⟨_, rfl, post_of_read laid types hW' hAk (fun _ _ _ => (trodAll_cons_mk (shut_bool Tryz.underlying4 _) trodAll_mk0)) rfl (fun _ => rfl) hg⟩

theorem c1 : (Rows.scanPositionsRow.inPlace == Tryz.prog.inPlace 10) = true := by kernel_rfl
theorem c2 : (Rows.scanPositionsRow.unfollowed == Tryz.prog.unfollowed 10) = true := by kernel_rfl
theorem c3 : (Rows.scanPositionsRow.recurses == Tryz.prog.recurses 10) = true := by kernel_rfl
theorem c4 : (Rows.scanPositionsRow.named == Tryz.prog.varsNamed 10) = true := by kernel_rfl
theorem closed : joinedFacts Tryz.prog 10 Tryz.f10 Rows.scanPositionsSpec Rows.scanPositionsRow = true := by
  unfold joinedFacts
  rw [c1, c2, c3, c4]
  kernel_rfl

theorem over : Rows.scanPositionsRow.holds Tryz.pinned (OpenSpec.ofChange Rows.scanPositionsSpec) :=
  OpenClaim.holds_of_wide 10 Tryz.f10 rfl rfl rfl rfl rfl rfl rfl ⟨rfl, rfl, rfl, rfl, rfl⟩ rfl rfl rfl rfl rfl (by kernel_rfl) Tryz.func10 closed
    (of_decide_eq_true (by kernel_rfl)) (by unfold Func.isWrapper; first | (rw [if_pos (by decide +kernel)]; kernel_rfl) | (rw [if_neg (by decide +kernel)]; exact ⟨rfl, rfl⟩))
    (fun os started H enc _ => lifted os started H enc)

theorem proved : Rows.ScanPositionsSaid :=
  over
end Go.Proofs.YtefkpimcffofaaaGreat.scanPositions
