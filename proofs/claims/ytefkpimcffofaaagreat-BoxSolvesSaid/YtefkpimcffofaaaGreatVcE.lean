/- Part. -/
import Derived.Test.YtefkpimcffofaaaGreatVcD
namespace Go.Vc
open Go Go.RowKit
section laws
variable {P : Program} {Shp : M03} {V : View} {rt : Nat} {o : Oper} {ev : Operand → SV} {blk : Option (Option OB)} {k k' : SV → Option OB → Prop}
theorem o0q {fl : Nat} {k : SV → Prop} (h : gen P fl o ev k) : ∃ s, k s ∧ gen P fl o ev (fun s' => s' = s) := by
 revert h; unfold gen
 split
 · split
   · intro h; exact ⟨_, h, rfl⟩
   · intro h; exact h.elim
 · rintro ⟨v, hv, h⟩; exact ⟨_, h, v, hv, rfl⟩
 · intro h; exact h.elim
theorem Z06 {fl : Nat} {k k' : SV → Prop} (hk : ∀ s, k s → k' s) (h : gen P fl o ev k) : gen P fl o ev k' := by
 revert h; unfold gen
 split
 · split
   · intro h; exact hk _ h
   · intro h; exact h.elim
 · rintro ⟨v, hv, h⟩; exact ⟨v, hv, hk _ h⟩
 · intro h; exact h.elim
theorem X0u {b : Option OB} {s : SV} (h : litK b k s) : ∃ s' ob, k s' ob ∧ litK b (fun s2 ob2 => s2 = s' ∧ ob2 = ob) s := by
 unfold litK at h
 split at h
 · exact ⟨_, _, h, rfl, rfl⟩
 · exact ⟨_, _, h, rfl, rfl⟩
 · exact h.elim
theorem A0j {b : Option OB} {k k' : SV → Option OB → Prop} (hk : ∀ s, k s b → k' s b) {s : SV} (h : litK b k s) : litK b k' s := by
 unfold litK at h
 split at h
 · exact hk _ h
 · exact hk _ h
 · exact h.elim
theorem Y0u (h : j05 P Shp V rt o ev blk k) : ∃ s ob, k s ob ∧ j05 P Shp V rt o ev blk (fun s' ob' => s' = s ∧ ob' = ob) := by
 revert h; unfold j05
 repeat' split
 all_goals first
  | (intro h; exact h.elim)
  | (intro h; exact ⟨_, _, h, rfl, rfl⟩)
theorem u0w (h : f08 P Shp V rt o ev blk k) : ∃ s ob, k s ob ∧ f08 P Shp V rt o ev blk (fun s' ob' => s' = s ∧ ob' = ob) := by
 revert h; unfold f08
 repeat' split
 all_goals first
  | (intro h; exact h.elim)
  | (intro h; exact h.2.elim)
  | (intro h; exact ⟨_, _, h, rfl, rfl⟩)
  | (intro h; exact ⟨_, _, h.2, h.1, rfl, rfl⟩)
theorem Z0u (h : X05 P Shp V rt o ev blk k) : ∃ s ob, k s ob ∧ X05 P Shp V rt o ev blk (fun s' ob' => s' = s ∧ ob' = ob) := by
 revert h; unfold X05
 repeat' split
 all_goals first
  | (intro h; exact h.elim)
  | (intro h; exact ⟨_, _, h, rfl, rfl⟩)
  | (rintro ⟨x, hx, h⟩; exact ⟨_, _, h, x, hx, rfl, rfl⟩)
  | (rintro ⟨x, hx, h⟩
     split at h
     · rename_i hv
       split at h
       · rename_i hb
         exact ⟨_, _, h, x, hx, by rw [hv]; simp [hb]⟩
       · exact h.elim
     · exact h.elim)
theorem w0w (h : Y05 P Shp V rt o ev blk k) : ∃ s ob, k s ob ∧ Y05 P Shp V rt o ev blk (fun s' ob' => s' = s ∧ ob' = ob) := by
 revert h; unfold Y05
 repeat' split
 all_goals first
  | (intro h; exact h.elim)
  | (rintro ⟨x, hx, h⟩; exact ⟨_, _, h, x, hx, rfl, rfl⟩)
  | (rintro ⟨x, hx, hs, h1, h⟩; exact ⟨_, _, h, x, hx, hs, h1, rfl, rfl⟩)
  | (rintro ⟨x, hx, hs, h⟩
     split at h
     · rename_i hv
       split at h
       · rename_i hb
         exact ⟨_, _, h, x, hx, hs, by rw [hv]; simp [hb]⟩
       · exact h.elim
     · exact h.elim)
theorem x0w (h : S06 P Shp V rt o ev blk k) : ∃ s ob, k s ob ∧ S06 P Shp V rt o ev blk (fun s' ob' => s' = s ∧ ob' = ob) := by
 revert h; unfold S06
 repeat' split
 all_goals first
  | (intro h; exact h.elim)
  | (rintro ⟨x, hx, h⟩; exact ⟨_, _, h, x, hx, rfl, rfl⟩)
  | (rintro ⟨x, hx, hs, h1, h⟩; exact ⟨_, _, h, x, hx, hs, h1, rfl, rfl⟩)
  | (rintro ⟨x, hx, hs, h⟩
     split at h
     · rename_i hv
       split at h
       · rename_i hb
         exact ⟨_, _, h, x, hx, hs, by rw [hv]; simp [hb]⟩
       · exact h.elim
     · exact h.elim)
theorem a0v (h : t06 P Shp V rt o ev blk k) : ∃ s ob, k s ob ∧ t06 P Shp V rt o ev blk (fun s' ob' => s' = s ∧ ob' = ob) := by
 revert h; unfold t06
 repeat' split
 all_goals first
  | (intro h; exact h.elim)
  | (rintro ⟨b, off, cs, h0, h1, h2, h⟩; exact ⟨_, _, h, b, off, cs, h0, h1, h2, rfl, rfl⟩)
theorem T0s (h : z05 P Shp V rt o ev blk k) : ∃ s ob, k s ob ∧ z05 P Shp V rt o ev blk (fun s' ob' => s' = s ∧ ob' = ob) := by
 revert h; unfold z05
 repeat' split
 all_goals first
  | (intro h; exact h.elim)
  | (intro h; exact ⟨_, _, h, rfl, rfl⟩)
  | (intro h; exact ⟨_, _, h.2, h.1, rfl, rfl⟩)
theorem U0s (h : Y03 P Shp V rt o ev blk k) : ∃ s ob, k s ob ∧ Y03 P Shp V rt o ev blk (fun s' ob' => s' = s ∧ ob' = ob) := by
 revert h; unfold Y03
 repeat' split
 all_goals first
  | (intro h; exact h.elim)
  | (intro h; exact ⟨_, _, h, rfl, rfl⟩)
  | (intro h; exact ⟨_, _, h.2, h.1, rfl, rfl⟩)
theorem b0v (h : Z05 P Shp V rt o ev blk k) : ∃ s ob, k s ob ∧ Z05 P Shp V rt o ev blk (fun s' ob' => s' = s ∧ ob' = ob) := by
 revert h; unfold Z05
 repeat' split
 all_goals first
  | (intro h; exact h.elim)
  | (intro h; exact ⟨_, _, h.2, h.1, rfl, rfl⟩)
  | (rintro ⟨x, hx, h⟩; exact ⟨_, _, h, x, hx, rfl, rfl⟩)
theorem c0v (h : a06 P Shp V rt o ev blk k) : ∃ s ob, k s ob ∧ a06 P Shp V rt o ev blk (fun s' ob' => s' = s ∧ ob' = ob) := by
 revert h; unfold a06
 repeat' split
 all_goals first
  | (intro h; exact h.elim)
  | (rintro ⟨vs, h1, h2, h3, h4, h5, h⟩; exact ⟨_, _, h, vs, h1, h2, h3, h4, h5, rfl, rfl⟩)
theorem i0n {an : An} (h : T06 P Shp V an o ev blk k) : ∃ s ob, k s ob ∧ T06 P Shp V an o ev blk (fun s' ob' => s' = s ∧ ob' = ob) := by
 revert h; unfold T06
 split
 · exact Y0u
 · exact u0w
 · exact Z0u
 · exact w0w
 · exact T0s
 · exact U0s
 · exact b0v
 · exact c0v
 · exact x0w
 · exact a0v
 · split
   · intro h; obtain ⟨s, hk, hg⟩ := o0q h
     obtain ⟨s', ob, hk', hl⟩ := X0u hk
     exact ⟨s', ob, hk', Z06 (fun s2 e => by rw [e]; exact hl) hg⟩
   · intro h; exact h.elim
 · unfold p0b
   repeat' split
   all_goals first
    | (intro h; exact h.elim)
    | (intro h; exact ⟨_, _, h, rfl, rfl⟩)
 · split
   · intro h; obtain ⟨s, hk, hg⟩ := o0q h; exact ⟨s, _, hk, Z06 (fun s' e => ⟨e, rfl⟩) hg⟩
   · intro h; exact h.elim
 · split
   · intro h; obtain ⟨s, hk, hg⟩ := o0q h; exact ⟨s, _, hk, Z06 (fun s' e => ⟨e, rfl⟩) hg⟩
   · intro h; exact h.elim
theorem X0c {an : An} (hk : ∀ s ob, k s ob → k' s ob) (h : T06 P Shp V an o ev blk k) : T06 P Shp V an o ev blk k' := by
 revert h; unfold T06
 split
 · unfold j05; repeat' split
   all_goals first
    | (intro h; exact h.elim)
    | (intro h; exact hk _ _ h)
 · unfold f08; repeat' split
   all_goals first
    | (intro h; exact h.elim)
    | (intro h; exact h.2.elim)
    | (intro h; exact hk _ _ h)
    | (intro h; exact ⟨h.1, hk _ _ h.2⟩)
 · unfold X05; repeat' split
   all_goals first
    | (intro h; exact h.elim)
    | (intro h; exact hk _ _ h)
    | (rintro ⟨x, hx, h⟩; exact ⟨x, hx, hk _ _ h⟩)
    | (rintro ⟨x, hx, h⟩
       refine ⟨x, hx, ?_⟩
       revert h
       split
       · split
         · exact hk _ _
         · exact id
       · exact id)
 · unfold Y05; repeat' split
   all_goals first
    | (intro h; exact h.elim)
    | (rintro ⟨x, hx, h⟩; exact ⟨x, hx, hk _ _ h⟩)
    | (rintro ⟨x, hx, hs, h1, h⟩; exact ⟨x, hx, hs, h1, hk _ _ h⟩)
    | (rintro ⟨x, hx, hs, h⟩
       refine ⟨x, hx, hs, ?_⟩
       revert h
       split
       · split
         · exact hk _ _
         · exact id
       · exact id)
 · unfold z05; repeat' split
   all_goals first
    | (intro h; exact h.elim)
    | (intro h; exact hk _ _ h)
    | (intro h; exact ⟨h.1, hk _ _ h.2⟩)
 · unfold Y03; repeat' split
   all_goals first
    | (intro h; exact h.elim)
    | (intro h; exact hk _ _ h)
    | (intro h; exact ⟨h.1, hk _ _ h.2⟩)
 · unfold Z05; repeat' split
   all_goals first
    | (intro h; exact h.elim)
    | (intro h; exact ⟨h.1, hk _ _ h.2⟩)
    | (rintro ⟨x, hx, h⟩; exact ⟨x, hx, hk _ _ h⟩)
 · unfold a06; repeat' split
   all_goals first
    | (intro h; exact h.elim)
    | (rintro ⟨vs, h1, h2, h3, h4, h5, h⟩; exact ⟨vs, h1, h2, h3, h4, h5, hk _ _ h⟩)
 · unfold S06; repeat' split
   all_goals first
    | (intro h; exact h.elim)
    | (rintro ⟨x, hx, h⟩; exact ⟨x, hx, hk _ _ h⟩)
    | (rintro ⟨x, hx, hs, h⟩
       refine ⟨x, hx, hs, ?_⟩
       revert h
       split
       · split
         · exact hk _ _
         · exact id
       · exact id)
 · unfold t06; repeat' split
   all_goals first
    | (intro h; exact h.elim)
    | (rintro ⟨b, off, cs, h0, h1, h2, h⟩; exact ⟨b, off, cs, h0, h1, h2, hk _ _ h⟩)
 · split
   · exact Z06 (fun s => A0j (fun s => hk s _))
   · exact id
 · unfold p0b; repeat' split
   all_goals first
    | (intro h; exact h.elim)
    | (intro h; exact hk _ _ h)
 · split
   · exact Z06 (fun s => hk s _)
   · exact id
 · split
   · exact Z06 (fun s => hk s _)
   · exact id
theorem n0o {an : An} {V' : View} (hV : V.le V') (h : T06 P Shp V an o ev blk k) : T06 P Shp V' an o ev blk k := by
 revert h; unfold T06
 split
 · exact id
 · exact id
 · exact id
 · unfold Y05; repeat' split
   all_goals first
    | exact id
    | (rintro ⟨x, hx, h⟩; exact ⟨x, d02 hV hx, h⟩)
    | (rintro ⟨x, hx, hs, h⟩; exact ⟨x, w04 hV hx, hs, h⟩)
 · exact id
 · exact id
 · exact id
 · unfold a06; repeat' split
   all_goals first
    | exact id
    | (rintro ⟨vs, h1, h2, h3, h4, h5, h⟩; exact ⟨vs, w04 hV h1, h2, h3, h4, h5, h⟩)
 · unfold S06; repeat' split
   all_goals first
    | exact id
    | (rintro ⟨x, hx, h⟩; exact ⟨x, P0s hV hx, h⟩)
    | (rintro ⟨x, hx, hs, h⟩; exact ⟨x, z0e hV hx, hs, h⟩)
 · exact id
 · split <;> exact id
 · exact id
 · split <;> exact id
 · split <;> exact id
theorem o0o {an : An} {b : Option OB} (h3 : an.fl ≠ 3) (h6 : an.fl ≠ 6) (h16 : an.fl ≠ 16) (h23 : an.fl ≠ 23) (h : T06 P Shp V an o ev (some b) k) : T06 P Shp V an o ev (some b) (fun s ob => ob = b ∧ k s ob) := by
 revert h; unfold T06
 split
 · unfold j05; repeat' split
   all_goals first
    | (intro h; exact h.elim)
    | (intro h; simp_all; done)
 · contradiction
 · unfold X05; repeat' split
   all_goals first
    | (intro h; exact h.elim)
    | (intro h; simp_all; done)
    | (rintro ⟨x, hx, h⟩; refine ⟨x, hx, ?_⟩; simp_all; done)
    | (rintro ⟨x, hx, h⟩
       refine ⟨x, hx, ?_⟩
       revert h
       split
       · split
         · intro h; simp_all
         · exact id
       · exact id)
 · unfold Y05; repeat' split
   all_goals first
    | (intro h; exact h.elim)
    | (rintro ⟨x, hx, h⟩; refine ⟨x, hx, ?_⟩; simp_all; done)
    | (rintro ⟨x, hx, hs, h1, h⟩; refine ⟨x, hx, hs, h1, ?_⟩; simp_all; done)
    | (rintro ⟨x, hx, hs, h⟩
       refine ⟨x, hx, hs, ?_⟩
       revert h
       split
       · split
         · intro h; simp_all
         · exact id
       · exact id)
 · contradiction
 · unfold Y03; repeat' split
   all_goals first
    | (intro h; exact h.elim)
    | (intro h; simp_all; done)
 · unfold Z05; repeat' split
   all_goals first
    | (intro h; exact h.elim)
    | (intro h; simp_all; done)
    | (rintro ⟨x, hx, h⟩; refine ⟨x, hx, ?_⟩; simp_all; done)
 · contradiction
 · unfold S06; repeat' split
   all_goals first
    | (intro h; exact h.elim)
    | (rintro ⟨x, hx, h⟩; refine ⟨x, hx, ?_⟩; simp_all; done)
    | (rintro ⟨x, hx, hs, h⟩
       refine ⟨x, hx, hs, ?_⟩
       revert h
       split
       · split
         · intro h; simp_all
         · exact id
       · exact id)
 · contradiction
 · exact Z06 (fun s => A0j (fun s h => ⟨rfl, h⟩))
 · unfold p0b; repeat' split
   all_goals first
    | (intro h; exact h.elim)
    | (intro h; simp_all; done)
 · exact Z06 (fun s h => ⟨rfl, h⟩)
 · exact Z06 (fun s h => ⟨rfl, h⟩)
end laws
section congr
variable {P : Program} {Shp : M03} {V : View} {rt : Nat} {o : Oper} {ev ev' : Operand → SV} {blk : Option (Option OB)} {k : SV → Option OB → Prop}
theorem Y0c {α : Type} {p q : α → Bool} : ∀ {l : List α}, (∀ x ∈ l, p x = q x) → l.all p = l.all q
 | [], _ => rfl
 | x :: l, h => by simp [h x (by simp), Y0c (l := l) (fun y hy => h y (by simp [hy]))]
theorem E0e {fl : Nat} {k : SV → Prop} (hev : ∀ x ∈ o.op.operands, ev x = ev' x) (h : gen P fl o ev k) : gen P fl o ev' k := by
 have h1 : o.op.operands.toList.all (fun x => (ev x).asVal.isSome) = o.op.operands.toList.all (fun x => (ev' x).asVal.isSome) :=
  Y0c fun x hx => by rw [hev x (by simpa using hx)]
 cases hs : M0b o.op with
 | true => unfold gen at h; rw [hs] at h; exact h.elim
 | false =>
   have h2 : execOp (rho ev) o = execOp (rho ev') o :=
    execOp_congr o (by intro cs b e; rw [e] at hs; simp [M0b] at hs) (fun x hx => by simp [rho, hev x hx])
   unfold gen at h ⊢
   rw [← h1, ← h2]; exact h
theorem q0o (hev : ∀ x ∈ o.op.operands, ev x = ev' x) (h : j05 P Shp V rt o ev blk k) : j05 P Shp V rt o ev' blk k := by
 revert h; unfold j05
 split
 · rename_i x hop; rw [hev x (by simp [hop, Op.operands])]; exact id
 · rename_i x hop; rw [hev x (by simp [hop, Op.operands])]; exact id
 · rename_i c x y hop; rw [hev c (by simp [hop, Op.operands]), hev x (by simp [hop, Op.operands]), hev y (by simp [hop, Op.operands])]; exact id
 · rename_i x i hop; rw [hev x (by simp [hop, Op.operands])]; exact id
 · exact id
theorem A06 {o : Oper} {ev ev' : Operand → SV} (hev : ∀ x ∈ o.op.operands, ev x = ev' x) : N0b P o ev = N0b P o ev' := by
 unfold N0b
 split
 · rename_i t n parts hop
   have hp : ∀ p ∈ parts.toList, ev p.2 = ev' p.2 := fun p hp => hev p.2 (by simp [hop, Op.operands]; exact ⟨p.1, by simpa using hp⟩)
   have h1 : parts.toList.all (fun p => (ev p.2).asVal.isSome) = parts.toList.all (fun p => (ev' p.2).asVal.isSome) := Y0c fun p h => by rw [hp p h]
   have h2 : (parts.toList.map fun p => (p.1, rho ev p.2)) = parts.toList.map fun p => (p.1, rho ev' p.2) := List.map_congr_left fun p h => by simp [rho, hp p h]
   rw [h1, h2]
 · rfl
theorem p0q (hev : ∀ x ∈ o.op.operands, ev x = ev' x) (h : f08 P Shp V rt o ev blk k) : f08 P Shp V rt o ev' blk k := by
 revert h; unfold f08
 split
 · exact id
 · rename_i t x hop; rw [hev x (by simp [hop, Op.operands])]; exact id
 · rename_i t n c hop; rw [hev n (by simp [hop, Op.operands]), hev c (by simp [hop, Op.operands])]; exact id
 · rename_i t n parts hop; rw [A06 hev]; exact id
 · exact id
theorem s0o (hev : ∀ x ∈ o.op.operands, ev x = ev' x) (h : X05 P Shp V rt o ev blk k) : X05 P Shp V rt o ev' blk k := by
 revert h; unfold X05
 split
 · rename_i t p ob hop; rw [hev p (by simp [hop, Op.operands])]; exact id
 · exact id
theorem q0q (hev : ∀ x ∈ o.op.operands, ev x = ev' x) (h : Y05 P Shp V rt o ev blk k) : Y05 P Shp V rt o ev' blk k := by
 revert h; unfold Y05
 split
 · rename_i t p b hop; rw [hev p (by simp [hop, Op.operands])]; exact id
 · rename_i src dst x b hop; rw [hev x (by simp [hop, Op.operands])]; exact id
 · exact id
theorem G0l (hev : ∀ x ∈ o.op.operands, ev x = ev' x) (h : z05 P Shp V rt o ev blk k) : z05 P Shp V rt o ev' blk k := by
 revert h; unfold z05
 split
 · rename_i t p x ob hop; rw [hev p (by simp [hop, Op.operands]), hev x (by simp [hop, Op.operands])]; exact id
 · exact id
theorem s0q (hev : ∀ x ∈ o.op.operands, ev x = ev' x) (h : S06 P Shp V rt o ev blk k) : S06 P Shp V rt o ev' blk k := by
 revert h; unfold S06
 split
 · rename_i t p ty m hop; rw [hev p (by simp [hop, Op.operands])]; exact id
 · exact id
theorem t0o (hev : ∀ x ∈ o.op.operands, ev x = ev' x) (h : t06 P Shp V rt o ev blk k) : t06 P Shp V rt o ev' blk k := by
 revert h; unfold t06
 split
 · rename_i t p x ty m hop; rw [hev p (by simp [hop, Op.operands]), hev x (by simp [hop, Op.operands])]; exact id
 · exact id
theorem H0l (hev : ∀ x ∈ o.op.operands, ev x = ev' x) (h : Y03 P Shp V rt o ev blk k) : Y03 P Shp V rt o ev' blk k := by
 revert h; unfold Y03
 split
 · rename_i s p f b hop; rw [hev p (by simp [hop, Op.operands])]; exact id
 · rename_i t x i b hop; rw [hev x (by simp [hop, Op.operands]), hev i (by simp [hop, Op.operands])]; exact id
 · rename_i t x lo hi mx b hop
   rw [hev x (by simp [hop, Op.operands])]
   cases lo with
   | none => cases hi with
     | none => exact id
     | some y => simp only [hev y (by simp [hop, Op.operands])]; exact id
   | some z => cases hi with
     | none => simp only [hev z (by simp [hop, Op.operands])]; exact id
     | some y => simp only [hev y (by simp [hop, Op.operands]), hev z (by simp [hop, Op.operands])]; exact id
 · rename_i c b hop
   split
   · rename_i x t hcal hargs htys
     rw [hev x (by
      have : x ∈ c.args.toList := by rw [hargs]; simp
      simp only [hop, Op.operands, Call.operands]
      simp at this
      simp [this])]
     exact id
   · exact id
 · rename_i f first caps b hop
   split
   · rename_i p hf hc
     rw [hev p (by
      have : p ∈ caps.toList := by rw [hc]; simp
      simp at this
      simp [hop, Op.operands, this])]
     exact id
   · exact id
 · exact id
theorem a07 {ev ev' : Operand → SV} : ∀ {l : List Operand}, (∀ x ∈ l, ev x = ev' x) → Q06 ev l = Q06 ev' l
 | [], _ => rfl
 | x :: l, h => by simp [Q06, h x (by simp), a07 (l := l) (fun y hy => h y (by simp [hy]))]
theorem u0o (hev : ∀ x ∈ o.op.operands, ev x = ev' x) (h : Z05 P Shp V rt o ev blk k) : Z05 P Shp V rt o ev' blk k := by
 revert h; unfold Z05
 split
 · exact id
 · split
   · rename_i op t x y yt hop
     rw [hev x (by simp [hop, Op.operands]), hev y (by simp [hop, Op.operands])]; exact id
   · rename_i c hop
     have hc : ∀ x ∈ c.args.toList, ev x = ev' x := fun x hx => hev x (by
      simp only [hop, Op.operands, Call.operands]
      simp at hx
      simp [hx])
     split
     · rename_i x y hcal hargs
       rw [hargs] at hc
       rw [hc x (by simp), hc y (by simp)]; exact id
     · rename_i x y hcal hargs
       rw [hargs] at hc
       rw [hc x (by simp), hc y (by simp)]; exact id
     · rw [a07 hc]; exact id
     · exact id
   · rename_i t x ix hop
     rw [hev x (by simp [hop, Op.operands]), hev ix (by simp [hop, Op.operands])]; exact id
   · rename_i t x lo hi mx hop
     rw [hev x (by simp [hop, Op.operands]), hev mx (by simp [hop, Op.operands])]
     cases lo with
     | none => cases hi with
       | none => exact id
       | some y => simp only [hev y (by simp [hop, Op.operands])]; exact id
     | some z => cases hi with
       | none => simp only [hev z (by simp [hop, Op.operands])]; exact id
       | some y => simp only [hev y (by simp [hop, Op.operands]), hev z (by simp [hop, Op.operands])]; exact id
   · exact id
theorem w0o (hev : ∀ x ∈ o.op.operands, ev x = ev' x) (h : a06 P Shp V rt o ev blk k) : a06 P Shp V rt o ev' blk k := by
 revert h; unfold a06
 split
 · rename_i c ob hop
   have hc : ∀ x ∈ c.args.toList, ev x = ev' x := fun x hx => hev x (by
    simp only [hop, Op.operands, Call.operands]
    simp at hx
    simp [hx])
   split
   · rename_i x y t t2 hcal hargs htys
     rw [hargs] at hc
     rw [hc x (by simp), hc y (by simp)]; exact id
   · exact id
 · exact id
theorem I0l {an : An} (hev : ∀ x ∈ o.op.operands, ev x = ev' x) (h : T06 P Shp V an o ev blk k) : T06 P Shp V an o ev' blk k := by
 revert h; unfold T06
 split
 · exact q0o hev
 · exact p0q hev
 · exact s0o hev
 · exact q0q hev
 · exact G0l hev
 · exact H0l hev
 · exact u0o hev
 · exact w0o hev
 · exact s0q hev
 · exact t0o hev
 · split
   · exact E0e hev
   · exact id
 · unfold p0b; split
   · rename_i t x b hop; rw [hev x (by simp [hop, Op.operands])]; exact id
   · rename_i c x y b hop; rw [hev c (by simp [hop, Op.operands]), hev x (by simp [hop, Op.operands]), hev y (by simp [hop, Op.operands])]; exact id
   · exact id
 · split
   · exact E0e hev
   · exact id
 · split
   · exact E0e hev
   · exact id
end congr
