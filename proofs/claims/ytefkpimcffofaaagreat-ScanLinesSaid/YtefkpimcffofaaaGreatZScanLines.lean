/- ScanLines returns true for every input, and the input reads as it did. Conditions: none. -/
import Derived.Test.YtefkpimcffofaaaGreatPartE
import Derived.Test.YtefkpimcffofaaaGreatRows
namespace Go.Proofs.YtefkpimcffofaaaGreat.scanLines
open Go Go.Vc Go.ChangeShapes Go.WideShapes Go.ChangeAt Go.RowKit

theorem own : ownKnob Tryz.prog.godebug = none := by kernel_rfl
theorem laid : laidOutB Tryz.prog = true := by kernel_rfl
theorem n0v : g0u Tryz.prog 39 := ⟨⟨_, _, _, Tryz.underlying39, ⟨rfl, rfl, rfl⟩, ⟨by kernel_rfl, by kernel_rfl, by kernel_rfl⟩, by kernel_rfl, by kernel_rfl, by kernel_rfl⟩, by kernel_rfl⟩
theorem types : ∀ t ∈ Tryz.f11.params.toList, Tryz.prog.readableRec t = true ∧ t < Tryz.prog.types.size := by
  rw [Tryz.params11]
  intro t ht
  simp only [List.mem_cons, List.not_mem_nil, or_false] at ht
  rcases ht with rfl | rfl | rfl | rfl | rfl <;> exact ⟨by kernel_rfl, by decide +kernel⟩

set_option maxRecDepth 100000 in
theorem o0v (os : Os) (started : os.Started) (H : Type) (enc : TypeId × Value → H) :
    ReturnsInHanded {} Tryz.checked os 11 .any (Rows.scanLinesSpec.pre6 enc Tryz.prog Tryz.f11 Rows.scanLinesRow.domain false) (Rows.scanLinesSpec.post enc Tryz.prog Tryz.f11 false true false false) := by
  refine returnsInHanded_of_change (C := Tryz.checked) own started (by kernel_rfl) Tryz.func11
    (ChangeSpec.witness6 (enc := enc) (C := Tryz.checked) false ⟨#[], #[.slice none 0 0, .slice none 0 0, .agg #[.int .i64 0, .int .i64 0, .int .i64 0], .agg #[.int .i64 0, .int .i64 0, .int .i64 0], .int .i64 0], []⟩ 8 (by kernel_rfl) (by kernel_rfl) (by kernel_rfl) (by kernel_rfl)) ?_
  intro W base args ds gs before hval0 hW hcnd _
  have hval : ∀ (j : Nat) t v, Tryz.f11.params[j]? = some t → args[j]? = some v → Value.okWide Tryz.prog W .any base t v := hval0
  have hW' := hW
  obtain ⟨p, q, hA0, hV, rfl, hfz, hnd⟩ := hW
  have hA : DataW.TrodAll enc Tryz.prog W 0 (fun _ => true) true Tryz.f11.params.toList args.toList ds p := hA0
  have hAk : DataW.TrodAll enc Tryz.prog W 0 (fun _ => true) true Tryz.f11.params.toList args.toList ds p := hA0
  rw [Tryz.params11] at hA hval
  obtain ⟨v0, vs0, d0, ds0, p0, q0, hargs, rfl, rfl, h0, r0⟩ := trodAll_cons hA
  obtain ⟨v1, vs1, d1, ds1, p1, q1, rfl, rfl, rfl, h1, r1⟩ := trodAll_cons r0
  obtain ⟨v2, vs2, d2, ds2, p2, q2, rfl, rfl, rfl, h2, r2⟩ := trodAll_cons r1
  obtain ⟨v3, vs3, d3, ds3, p3, q3, rfl, rfl, rfl, h3, r3⟩ := trodAll_cons r2
  obtain ⟨v4, vs4, d4, ds4, p4, q4, rfl, rfl, rfl, h4, r4⟩ := trodAll_cons r3
  obtain ⟨rfl, rfl, rfl⟩ := trodAll_nil r4
  obtain rfl : args = #[v0, v1, v2, v3, v4] := by cases args; simp_all
  obtain ⟨rfl, rfl⟩ := trodVars_none hV
  obtain ⟨s0, ks0, rfl, hks0, hl0, hi0⟩ := w0h Tryz.underlying112 (by kernel_rfl) (by kernel_rfl) (okWide_slice Tryz.underlying112 (hval 0 112 v0 rfl rfl)) h0
  obtain ⟨s1, ks1, rfl, hks1, hl1, hi1⟩ := w0h Tryz.underlying112 (by kernel_rfl) (by kernel_rfl) (okWide_slice Tryz.underlying112 (hval 1 112 v1 rfl rfl)) h1
  obtain ⟨r2x, hr2x, rfl⟩ := N0o n0v h2
  obtain ⟨r3x, hr3x, rfl⟩ := N0o n0v h3
  obtain ⟨a4, rfl, rfl, rfl, w4⟩ := open_int Tryz.underlying3 (hval 4 3 v4 rfl rfl) h4
  clear hA0 hval0
  simp only [List.append_nil] at hW' hAk
  refine (a00.fits (n0i hks0 hks1 hi0 hi1 hr2x hr3x) (g0m W)).mono fun e W' ⟨he, hg⟩ => ?_
  subst he
  exact ⟨_, rfl, e0m laid types hW' hAk (fun _ _ _ => (trodAll_cons_mk (shut_bool Tryz.underlying4 _) trodAll_mk0)) rfl (fun _ => rfl) hg⟩

theorem c1 : (Rows.scanLinesRow.inPlace == Tryz.prog.inPlace 11) = true := by kernel_rfl
theorem c2 : (Rows.scanLinesRow.unfollowed == Tryz.prog.unfollowed 11) = true := by kernel_rfl
theorem c3 : (Rows.scanLinesRow.recurses == Tryz.prog.recurses 11) = true := by kernel_rfl
theorem c4 : (Rows.scanLinesRow.named == Tryz.prog.varsNamed 11) = true := by kernel_rfl
theorem p0v : joinedFacts Tryz.prog 11 Tryz.f11 Rows.scanLinesSpec Rows.scanLinesRow = true := by
  unfold joinedFacts
  rw [c1, c2, c3, c4]
  kernel_rfl

theorem over : Rows.scanLinesRow.holds Tryz.pinned (OpenSpec.ofChange Rows.scanLinesSpec) :=
  OpenClaim.holds_of_wide 11 Tryz.f11 rfl rfl rfl rfl rfl rfl rfl ⟨rfl, rfl, rfl, rfl, rfl⟩ rfl rfl rfl rfl rfl (by kernel_rfl) Tryz.func11 p0v
    (of_decide_eq_true (by kernel_rfl)) (by unfold Func.isWrapper; first | (rw [if_pos (by decide +kernel)]; kernel_rfl) | (rw [if_neg (by decide +kernel)]; exact ⟨rfl, rfl⟩))
    (fun os started H enc _ => o0v os started H enc)

theorem proved : Rows.ScanLinesSaid :=
  over
end Go.Proofs.YtefkpimcffofaaaGreat.scanLines
