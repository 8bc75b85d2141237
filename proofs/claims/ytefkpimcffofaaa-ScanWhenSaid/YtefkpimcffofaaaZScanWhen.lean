/- ScanWhen returns true for every input, and the input reads as it did. Conditions: none. -/
import Derived.Test.YtefkpimcffofaaaPartE
import Derived.Test.YtefkpimcffofaaaRows
namespace Go.Proofs.Ytefkpimcffofaaa.scanWhen
open Go Go.Vc Go.ChangeShapes Go.WideShapes Go.ChangeAt Go.RowKit

theorem own : ownKnob Try.prog.godebug = none := by kernel_rfl
theorem laid : laidOutB Try.prog = true := by kernel_rfl
theorem ratTy : RatTy Try.prog 59 := ⟨⟨_, _, _, Try.underlying59, ⟨rfl, rfl, rfl⟩, ⟨by kernel_rfl, by kernel_rfl, by kernel_rfl⟩, by kernel_rfl, by kernel_rfl, by kernel_rfl⟩, by kernel_rfl⟩
theorem types : ∀ t ∈ Try.f5.params.toList, Try.prog.readableRec t = true ∧ t < Try.prog.types.size := by
  rw [Try.params5]
  intro t ht
  simp only [List.mem_cons, List.not_mem_nil, or_false] at ht
  rcases ht with rfl | rfl | rfl <;> exact ⟨by kernel_rfl, by decide +kernel⟩

set_option maxRecDepth 100000 in
theorem lifted (os : Os) (started : os.Started) (H : Type) (enc : TypeId × Value → H) :
    ReturnsInHanded {} Try.checked os 5 .any (Rows.scanWhenSpec.pre6 enc Try.prog Try.f5 Rows.scanWhenRow.domain false) (Rows.scanWhenSpec.post enc Try.prog Try.f5 false true false false) := by
  refine returnsInHanded_of_change (C := Try.checked) own started (by kernel_rfl) Try.func5
    (ChangeSpec.witness6 (enc := enc) (C := Try.checked) false ⟨#[], #[.slice none 0 0, .agg #[.int .i64 0, .int .i64 0, .int .i64 0], .agg #[.int .i64 0, .int .i64 0, .int .i64 0]], []⟩ 8 (by kernel_rfl) (by kernel_rfl) (by kernel_rfl) (by kernel_rfl)) ?_
  intro W base args ds gs before hval0 hW hcnd _
  have hval : ∀ (j : Nat) t v, Try.f5.params[j]? = some t → args[j]? = some v → Value.okWide Try.prog W .any base t v := hval0
  have hW' := hW
  obtain ⟨p, q, hA0, hV, rfl, hfz, hnd⟩ := hW
  have hA : DataW.TrodAll enc Try.prog W 0 (fun _ => true) true Try.f5.params.toList args.toList ds p := hA0
  have hAk : DataW.TrodAll enc Try.prog W 0 (fun _ => true) true Try.f5.params.toList args.toList ds p := hA0
  rw [Try.params5] at hA hval
  obtain ⟨v0, vs0, d0, ds0, p0, q0, hargs, rfl, rfl, h0, r0⟩ := trodAll_cons hA
  obtain ⟨v1, vs1, d1, ds1, p1, q1, rfl, rfl, rfl, h1, r1⟩ := trodAll_cons r0
  obtain ⟨v2, vs2, d2, ds2, p2, q2, rfl, rfl, rfl, h2, r2⟩ := trodAll_cons r1
  obtain ⟨rfl, rfl, rfl⟩ := trodAll_nil r2
  obtain rfl : args = #[v0, v1, v2] := by cases args; simp_all
  obtain ⟨rfl, rfl⟩ := trodVars_none hV
  obtain ⟨s0, ks0, rfl, hks0, hl0, hi0⟩ := open_ticksW Try.underlying57 (by kernel_rfl) (by kernel_rfl) (okWide_slice Try.underlying57 (hval 0 57 v0 rfl rfl)) h0
  obtain ⟨r1x, hr1x, rfl⟩ := open_rat ratTy h1
  obtain ⟨r2x, hr2x, rfl⟩ := open_rat ratTy h2
  clear hA0 hval0
  simp only [List.append_nil] at hW' hAk
  refine (CallV.fits (ScanWhen_spec hks0 hi0 hr1x hr2x) (worldView_in W)).mono fun e W' ⟨he, hg⟩ => ?_
  subst he
  exact ⟨_, rfl, post_of_read laid types hW' hAk (fun _ _ _ => (trodAll_cons_mk (shut_bool Try.underlying4 _) trodAll_mk0)) rfl (fun _ => rfl) hg⟩

theorem c1 : (Rows.scanWhenRow.inPlace == Try.prog.inPlace 5) = true := by kernel_rfl
theorem c2 : (Rows.scanWhenRow.unfollowed == Try.prog.unfollowed 5) = true := by kernel_rfl
theorem c3 : (Rows.scanWhenRow.recurses == Try.prog.recurses 5) = true := by kernel_rfl
theorem c4 : (Rows.scanWhenRow.named == Try.prog.varsNamed 5) = true := by kernel_rfl
theorem closed : joinedFacts Try.prog 5 Try.f5 Rows.scanWhenSpec Rows.scanWhenRow = true := by
  unfold joinedFacts
  rw [c1, c2, c3, c4]
  kernel_rfl

theorem over : Rows.scanWhenRow.holds Try.pinned (OpenSpec.ofChange Rows.scanWhenSpec) :=
  OpenClaim.holds_of_wide 5 Try.f5 rfl rfl rfl rfl rfl rfl rfl ⟨rfl, rfl, rfl, rfl, rfl⟩ rfl rfl rfl rfl rfl (by kernel_rfl) Try.func5 closed
    (of_decide_eq_true (by kernel_rfl)) (by unfold Func.isWrapper; first | (rw [if_pos (by decide +kernel)]; kernel_rfl) | (rw [if_neg (by decide +kernel)]; exact ⟨rfl, rfl⟩))
    (fun os started H enc _ => lifted os started H enc)

theorem proved : Rows.ScanWhenSaid :=
  over
end Go.Proofs.Ytefkpimcffofaaa.scanWhen
