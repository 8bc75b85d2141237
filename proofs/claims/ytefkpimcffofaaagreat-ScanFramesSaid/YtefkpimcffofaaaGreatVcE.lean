/- Part. -/
import Derived.Test.YtefkpimcffofaaaGreatVcD
namespace Go.Vc
open Go Go.RowKit
section laws
variable {P : Program} {Shp : I03} {V : View} {rt : Nat} {o : Oper} {ev : Operand → SV} {blk : Option (Option OB)} {k k' : SV → Option OB → Prop}
theorem o0p {fl : Nat} {k : SV → Prop} (h : gen P fl o ev k) : ∃ s, k s ∧ gen P fl o ev (fun s' => s' = s) := by
 revert h; unfold gen
 split
 · split
   · intro h; exact ⟨_, h, rfl⟩
   · intro h; exact h.elim
 · rintro ⟨v, hv, h⟩; exact ⟨_, h, v, hv, rfl⟩
 · intro h; exact h.elim
theorem E07 {fl : Nat} {k k' : SV → Prop} (hk : ∀ s, k s → k' s) (h : gen P fl o ev k) : gen P fl o ev k' := by
 revert h; unfold gen
 split
 · split
   · intro h; exact hk _ h
   · intro h; exact h.elim
 · rintro ⟨v, hv, h⟩; exact ⟨v, hv, hk _ h⟩
 · intro h; exact h.elim
theorem O0r {b : Option OB} {s : SV} (h : litK b k s) : ∃ s' ob, k s' ob ∧ litK b (fun s2 ob2 => s2 = s' ∧ ob2 = ob) s := by
 unfold litK at h
 split at h
 · exact ⟨_, _, h, rfl, rfl⟩
 · exact ⟨_, _, h, rfl, rfl⟩
 · exact h.elim
theorem u0j {b : Option OB} {k k' : SV → Option OB → Prop} (hk : ∀ s, k s b → k' s b) {s : SV} (h : litK b k s) : litK b k' s := by
 unfold litK at h
 split at h
 · exact hk _ h
 · exact hk _ h
 · exact h.elim
theorem P0r (h : n05 P Shp V rt o ev blk k) : ∃ s ob, k s ob ∧ n05 P Shp V rt o ev blk (fun s' ob' => s' = s ∧ ob' = ob) := by
 revert h; unfold n05
 repeat' split
 all_goals first
  | (intro h; exact h.elim)
  | (intro h; exact ⟨_, _, h, rfl, rfl⟩)
theorem F0s (h : E08 P Shp V rt o ev blk k) : ∃ s ob, k s ob ∧ E08 P Shp V rt o ev blk (fun s' ob' => s' = s ∧ ob' = ob) := by
 revert h; unfold E08
 repeat' split
 all_goals first
  | (intro h; exact h.elim)
  | (intro h; exact h.2.elim)
  | (intro h; exact ⟨_, _, h, rfl, rfl⟩)
  | (intro h; exact ⟨_, _, h.2, h.1, rfl, rfl⟩)
theorem Q0r (h : Z05 P Shp V rt o ev blk k) : ∃ s ob, k s ob ∧ Z05 P Shp V rt o ev blk (fun s' ob' => s' = s ∧ ob' = ob) := by
 revert h; unfold Z05
 repeat' split
 all_goals first
  | (intro h; exact h.elim)
  | (intro h; exact ⟨_, _, h, rfl, rfl⟩)
  | (rintro ⟨x, hx, h⟩; exact ⟨_, _, h, x, hx, rfl, rfl⟩)
  | (rintro ⟨x, hx, h⟩
     split at h
     · rename_i hv
       split at h
       · rename_i hb
         exact ⟨_, _, h, x, hx, by rw [hv]; simp [hb]⟩
       · exact h.elim
     · exact h.elim)
theorem G0s (h : a06 P Shp V rt o ev blk k) : ∃ s ob, k s ob ∧ a06 P Shp V rt o ev blk (fun s' ob' => s' = s ∧ ob' = ob) := by
 revert h; unfold a06
 repeat' split
 all_goals first
  | (intro h; exact h.elim)
  | (rintro ⟨x, hx, h⟩; exact ⟨_, _, h, x, hx, rfl, rfl⟩)
  | (rintro ⟨x, hx, hs, h1, h⟩; exact ⟨_, _, h, x, hx, hs, h1, rfl, rfl⟩)
  | (rintro ⟨x, hx, hs, h⟩
     split at h
     · rename_i hv
       split at h
       · rename_i hb
         exact ⟨_, _, h, x, hx, hs, by rw [hv]; simp [hb]⟩
       · exact h.elim
     · exact h.elim)
theorem H0s (h : s07 P Shp V rt o ev blk k) : ∃ s ob, k s ob ∧ s07 P Shp V rt o ev blk (fun s' ob' => s' = s ∧ ob' = ob) := by
 revert h; unfold s07
 repeat' split
 all_goals first
  | (intro h; exact h.elim)
  | (rintro ⟨x, hx, h⟩; exact ⟨_, _, h, x, hx, rfl, rfl⟩)
  | (rintro ⟨x, hx, hs, h1, h⟩; exact ⟨_, _, h, x, hx, hs, h1, rfl, rfl⟩)
  | (rintro ⟨x, hx, hs, h⟩
     split at h
     · rename_i hv
       split at h
       · rename_i hb
         exact ⟨_, _, h, x, hx, hs, by rw [hv]; simp [hb]⟩
       · exact h.elim
     · exact h.elim)
theorem S0r (h : I06 P Shp V rt o ev blk k) : ∃ s ob, k s ob ∧ I06 P Shp V rt o ev blk (fun s' ob' => s' = s ∧ ob' = ob) := by
 revert h; unfold I06
 repeat' split
 all_goals first
  | (intro h; exact h.elim)
  | (rintro ⟨b, off, cs, h0, h1, h2, h⟩; exact ⟨_, _, h, b, off, cs, h0, h1, h2, rfl, rfl⟩)
theorem Q0q (h : x05 P Shp V rt o ev blk k) : ∃ s ob, k s ob ∧ x05 P Shp V rt o ev blk (fun s' ob' => s' = s ∧ ob' = ob) := by
 revert h; unfold x05
 repeat' split
 all_goals first
  | (intro h; exact h.elim)
  | (intro h; exact ⟨_, _, h, rfl, rfl⟩)
  | (intro h; exact ⟨_, _, h.2, h.1, rfl, rfl⟩)
theorem S0q (h : Y03 P Shp V rt o ev blk k) : ∃ s ob, k s ob ∧ Y03 P Shp V rt o ev blk (fun s' ob' => s' = s ∧ ob' = ob) := by
 revert h; unfold Y03
 repeat' split
 all_goals first
  | (intro h; exact h.elim)
  | (intro h; exact ⟨_, _, h, rfl, rfl⟩)
  | (intro h; exact ⟨_, _, h.2, h.1, rfl, rfl⟩)
theorem T0r (h : b06 P Shp V rt o ev blk k) : ∃ s ob, k s ob ∧ b06 P Shp V rt o ev blk (fun s' ob' => s' = s ∧ ob' = ob) := by
 revert h; unfold b06
 repeat' split
 all_goals first
  | (intro h; exact h.elim)
  | (intro h; exact ⟨_, _, h.2, h.1, rfl, rfl⟩)
  | (rintro ⟨x, hx, h⟩; exact ⟨_, _, h, x, hx, rfl, rfl⟩)
  | (rintro ⟨h0, x, hx, h⟩
     split at h
     · rename_i hv
       split at h
       · rename_i hb
         exact ⟨_, _, h, h0, x, hx, by rw [hv]; simp [hb]⟩
       · exact h.elim
     · exact h.elim)
theorem U0r (h : c06 P Shp V rt o ev blk k) : ∃ s ob, k s ob ∧ c06 P Shp V rt o ev blk (fun s' ob' => s' = s ∧ ob' = ob) := by
 revert h; unfold c06
 repeat' split
 all_goals first
  | (intro h; exact h.elim)
  | (rintro ⟨vs, h1, h2, h3, h4, h5, h⟩; exact ⟨_, _, h, vs, h1, h2, h3, h4, h5, rfl, rfl⟩)
theorem D0m {an : An} (h : t07 P Shp V an o ev blk k) : ∃ s ob, k s ob ∧ t07 P Shp V an o ev blk (fun s' ob' => s' = s ∧ ob' = ob) := by
 revert h; unfold t07
 split
 · exact P0r
 · exact F0s
 · exact Q0r
 · exact G0s
 · exact Q0q
 · exact S0q
 · exact T0r
 · exact U0r
 · exact H0s
 · exact S0r
 · split
   · intro h; obtain ⟨s, hk, hg⟩ := o0p h
     obtain ⟨s', ob, hk', hl⟩ := O0r hk
     exact ⟨s', ob, hk', E07 (fun s2 e => by rw [e]; exact hl) hg⟩
   · intro h; exact h.elim
 · unfold f0c
   repeat' split
   all_goals first
    | (intro h; exact h.elim)
    | (intro h; exact ⟨_, _, h, rfl, rfl⟩)
 · split
   · intro h; obtain ⟨s, hk, hg⟩ := o0p h; exact ⟨s, _, hk, E07 (fun s' e => ⟨e, rfl⟩) hg⟩
   · intro h; exact h.elim
 · split
   · intro h; obtain ⟨s, hk, hg⟩ := o0p h; exact ⟨s, _, hk, E07 (fun s' e => ⟨e, rfl⟩) hg⟩
   · intro h; exact h.elim
theorem z0d {an : An} (hk : ∀ s ob, k s ob → k' s ob) (h : t07 P Shp V an o ev blk k) : t07 P Shp V an o ev blk k' := by
 revert h; unfold t07
 split
 · unfold n05; repeat' split
   all_goals first
    | (intro h; exact h.elim)
    | (intro h; exact hk _ _ h)
 · unfold E08; repeat' split
   all_goals first
    | (intro h; exact h.elim)
    | (intro h; exact h.2.elim)
    | (intro h; exact hk _ _ h)
    | (intro h; exact ⟨h.1, hk _ _ h.2⟩)
 · unfold Z05; repeat' split
   all_goals first
    | (intro h; exact h.elim)
    | (intro h; exact hk _ _ h)
    | (rintro ⟨x, hx, h⟩; exact ⟨x, hx, hk _ _ h⟩)
    | (rintro ⟨x, hx, h⟩
       refine ⟨x, hx, ?_⟩
       revert h
       split
       · split
         · exact hk _ _
         · exact id
       · exact id)
 · unfold a06; repeat' split
   all_goals first
    | (intro h; exact h.elim)
    | (rintro ⟨x, hx, h⟩; exact ⟨x, hx, hk _ _ h⟩)
    | (rintro ⟨x, hx, hs, h1, h⟩; exact ⟨x, hx, hs, h1, hk _ _ h⟩)
    | (rintro ⟨x, hx, hs, h⟩
       refine ⟨x, hx, hs, ?_⟩
       revert h
       split
       · split
         · exact hk _ _
         · exact id
       · exact id)
 · unfold x05; repeat' split
   all_goals first
    | (intro h; exact h.elim)
    | (intro h; exact hk _ _ h)
    | (intro h; exact ⟨h.1, hk _ _ h.2⟩)
 · unfold Y03; repeat' split
   all_goals first
    | (intro h; exact h.elim)
    | (intro h; exact hk _ _ h)
    | (intro h; exact ⟨h.1, hk _ _ h.2⟩)
 · unfold b06; repeat' split
   all_goals first
    | (intro h; exact h.elim)
    | (intro h; exact ⟨h.1, hk _ _ h.2⟩)
    | (rintro ⟨x, hx, h⟩; exact ⟨x, hx, hk _ _ h⟩)
    | (rintro ⟨h0, x, hx, h⟩
       refine ⟨h0, x, hx, ?_⟩
       revert h
       split
       · split
         · exact hk _ _
         · exact id
       · exact id)
 · unfold c06; repeat' split
   all_goals first
    | (intro h; exact h.elim)
    | (rintro ⟨vs, h1, h2, h3, h4, h5, h⟩; exact ⟨vs, h1, h2, h3, h4, h5, hk _ _ h⟩)
 · unfold s07; repeat' split
   all_goals first
    | (intro h; exact h.elim)
    | (rintro ⟨x, hx, h⟩; exact ⟨x, hx, hk _ _ h⟩)
    | (rintro ⟨x, hx, hs, h⟩
       refine ⟨x, hx, hs, ?_⟩
       revert h
       split
       · split
         · exact hk _ _
         · exact id
       · exact id)
 · unfold I06; repeat' split
   all_goals first
    | (intro h; exact h.elim)
    | (rintro ⟨b, off, cs, h0, h1, h2, h⟩; exact ⟨b, off, cs, h0, h1, h2, hk _ _ h⟩)
 · split
   · exact E07 (fun s => u0j (fun s => hk s _))
   · exact id
 · unfold f0c; repeat' split
   all_goals first
    | (intro h; exact h.elim)
    | (intro h; exact hk _ _ h)
 · split
   · exact E07 (fun s => hk s _)
   · exact id
 · split
   · exact E07 (fun s => hk s _)
   · exact id
theorem B0n {an : An} {V' : View} (hV : V.le V') (h : t07 P Shp V an o ev blk k) : t07 P Shp V' an o ev blk k := by
 revert h; unfold t07
 split
 · exact id
 · exact id
 · exact id
 · unfold a06; repeat' split
   all_goals first
    | exact id
    | (rintro ⟨x, hx, h⟩; exact ⟨x, S02 hV hx, h⟩)
    | (rintro ⟨x, hx, hs, h⟩; exact ⟨x, j08 hV hx, hs, h⟩)
 · exact id
 · exact id
 · exact id
 · unfold c06; repeat' split
   all_goals first
    | exact id
    | (rintro ⟨vs, h1, h2, h3, h4, h5, h⟩; exact ⟨vs, j08 hV h1, h2, h3, h4, h5, h⟩)
 · unfold s07; repeat' split
   all_goals first
    | exact id
    | (rintro ⟨x, hx, h⟩; exact ⟨x, N0q hV hx, h⟩)
    | (rintro ⟨x, hx, hs, h⟩; exact ⟨x, W0e hV hx, hs, h⟩)
 · exact id
 · split <;> exact id
 · exact id
 · split <;> exact id
 · split <;> exact id
theorem C0n {an : An} {b : Option OB} (h3 : an.fl ≠ 3) (h6 : an.fl ≠ 6) (h16 : an.fl ≠ 16) (h23 : an.fl ≠ 23) (h : t07 P Shp V an o ev (some b) k) : t07 P Shp V an o ev (some b) (fun s ob => ob = b ∧ k s ob) := by
 revert h; unfold t07
 split
 · unfold n05; repeat' split
   all_goals first
    | (intro h; exact h.elim)
    | (intro h; simp_all; done)
 · contradiction
 · unfold Z05; repeat' split
   all_goals first
    | (intro h; exact h.elim)
    | (intro h; simp_all; done)
    | (rintro ⟨x, hx, h⟩; refine ⟨x, hx, ?_⟩; simp_all; done)
    | (rintro ⟨x, hx, h⟩
       refine ⟨x, hx, ?_⟩
       revert h
       split
       · split
         · intro h; simp_all
         · exact id
       · exact id)
 · unfold a06; repeat' split
   all_goals first
    | (intro h; exact h.elim)
    | (rintro ⟨x, hx, h⟩; refine ⟨x, hx, ?_⟩; simp_all; done)
    | (rintro ⟨x, hx, hs, h1, h⟩; refine ⟨x, hx, hs, h1, ?_⟩; simp_all; done)
    | (rintro ⟨x, hx, hs, h⟩
       refine ⟨x, hx, hs, ?_⟩
       revert h
       split
       · split
         · intro h; simp_all
         · exact id
       · exact id)
 · contradiction
 · unfold Y03; repeat' split
   all_goals first
    | (intro h; exact h.elim)
    | (intro h; simp_all; done)
 · unfold b06; repeat' split
   all_goals first
    | (intro h; exact h.elim)
    | (intro h; simp_all; done)
    | (rintro ⟨x, hx, h⟩; refine ⟨x, hx, ?_⟩; simp_all; done)
 · contradiction
 · unfold s07; repeat' split
   all_goals first
    | (intro h; exact h.elim)
    | (rintro ⟨x, hx, h⟩; refine ⟨x, hx, ?_⟩; simp_all; done)
    | (rintro ⟨x, hx, hs, h⟩
       refine ⟨x, hx, hs, ?_⟩
       revert h
       split
       · split
         · intro h; simp_all
         · exact id
       · exact id)
 · contradiction
 · exact E07 (fun s => u0j (fun s h => ⟨rfl, h⟩))
 · unfold f0c; repeat' split
   all_goals first
    | (intro h; exact h.elim)
    | (intro h; simp_all; done)
 · exact E07 (fun s h => ⟨rfl, h⟩)
 · exact E07 (fun s h => ⟨rfl, h⟩)
end laws
section congr
variable {P : Program} {Shp : I03} {V : View} {rt : Nat} {o : Oper} {ev ev' : Operand → SV} {blk : Option (Option OB)} {k : SV → Option OB → Prop}
theorem A0d {α : Type} {p q : α → Bool} : ∀ {l : List α}, (∀ x ∈ l, p x = q x) → l.all p = l.all q
 | [], _ => rfl
 | x :: l, h => by simp [h x (by simp), A0d (l := l) (fun y hy => h y (by simp [hy]))]
theorem b0f {fl : Nat} {k : SV → Prop} (hev : ∀ x ∈ o.op.operands, ev x = ev' x) (h : gen P fl o ev k) : gen P fl o ev' k := by
 have h1 : o.op.operands.toList.all (fun x => (ev x).asVal.isSome) = o.op.operands.toList.all (fun x => (ev' x).asVal.isSome) :=
  A0d fun x hx => by rw [hev x (by simpa using hx)]
 cases hs : y0c o.op with
 | true => unfold gen at h; rw [hs] at h; exact h.elim
 | false =>
   have h2 : execOp (rho ev) o = execOp (rho ev') o :=
    execOp_congr o (by intro cs b e; rw [e] at hs; simp [y0c] at hs) (fun x hx => by simp [rho, hev x hx])
   unfold gen at h ⊢
   rw [← h1, ← h2]; exact h
theorem D0n (hev : ∀ x ∈ o.op.operands, ev x = ev' x) (h : n05 P Shp V rt o ev blk k) : n05 P Shp V rt o ev' blk k := by
 revert h; unfold n05
 split
 · rename_i x hop; rw [hev x (by simp [hop, Op.operands])]; exact id
 · rename_i x hop; rw [hev x (by simp [hop, Op.operands])]; exact id
 · rename_i c x y hop; rw [hev c (by simp [hop, Op.operands]), hev x (by simp [hop, Op.operands]), hev y (by simp [hop, Op.operands])]; exact id
 · rename_i x i hop; rw [hev x (by simp [hop, Op.operands])]; exact id
 · exact id
theorem c07 {o : Oper} {ev ev' : Operand → SV} (hev : ∀ x ∈ o.op.operands, ev x = ev' x) : z0c P o ev = z0c P o ev' := by
 unfold z0c
 split
 · rename_i t n parts hop
   have hp : ∀ p ∈ parts.toList, ev p.2 = ev' p.2 := fun p hp => hev p.2 (by simp [hop, Op.operands]; exact ⟨p.1, by simpa using hp⟩)
   have h1 : parts.toList.all (fun p => (ev p.2).asVal.isSome) = parts.toList.all (fun p => (ev' p.2).asVal.isSome) := A0d fun p h => by rw [hp p h]
   have h2 : (parts.toList.map fun p => (p.1, rho ev p.2)) = parts.toList.map fun p => (p.1, rho ev' p.2) := List.map_congr_left fun p h => by simp [rho, hp p h]
   rw [h1, h2]
 · rfl
theorem p0p (hev : ∀ x ∈ o.op.operands, ev x = ev' x) (h : E08 P Shp V rt o ev blk k) : E08 P Shp V rt o ev' blk k := by
 revert h; unfold E08
 split
 · exact id
 · rename_i t x hop; rw [hev x (by simp [hop, Op.operands])]; exact id
 · rename_i t n c hop; rw [hev n (by simp [hop, Op.operands]), hev c (by simp [hop, Op.operands])]; exact id
 · rename_i t n parts hop; rw [c07 hev]; exact id
 · exact id
theorem E0n (hev : ∀ x ∈ o.op.operands, ev x = ev' x) (h : Z05 P Shp V rt o ev blk k) : Z05 P Shp V rt o ev' blk k := by
 revert h; unfold Z05
 split
 · rename_i t p ob hop; rw [hev p (by simp [hop, Op.operands])]; exact id
 · exact id
theorem q0p (hev : ∀ x ∈ o.op.operands, ev x = ev' x) (h : a06 P Shp V rt o ev blk k) : a06 P Shp V rt o ev' blk k := by
 revert h; unfold a06
 split
 · rename_i t p b hop; rw [hev p (by simp [hop, Op.operands])]; exact id
 · rename_i src dst x b hop; rw [hev x (by simp [hop, Op.operands])]; exact id
 · exact id
theorem s0l (hev : ∀ x ∈ o.op.operands, ev x = ev' x) (h : x05 P Shp V rt o ev blk k) : x05 P Shp V rt o ev' blk k := by
 revert h; unfold x05
 split
 · rename_i t p x ob hop; rw [hev p (by simp [hop, Op.operands]), hev x (by simp [hop, Op.operands])]; exact id
 · exact id
theorem s0p (hev : ∀ x ∈ o.op.operands, ev x = ev' x) (h : s07 P Shp V rt o ev blk k) : s07 P Shp V rt o ev' blk k := by
 revert h; unfold s07
 split
 · rename_i t p ty m hop; rw [hev p (by simp [hop, Op.operands])]; exact id
 · exact id
theorem F0n (hev : ∀ x ∈ o.op.operands, ev x = ev' x) (h : I06 P Shp V rt o ev blk k) : I06 P Shp V rt o ev' blk k := by
 revert h; unfold I06
 split
 · rename_i t p x ty m hop; rw [hev p (by simp [hop, Op.operands]), hev x (by simp [hop, Op.operands])]; exact id
 · exact id
theorem t0l (hev : ∀ x ∈ o.op.operands, ev x = ev' x) (h : Y03 P Shp V rt o ev blk k) : Y03 P Shp V rt o ev' blk k := by
 revert h; unfold Y03
 split
 · rename_i s p f b hop; rw [hev p (by simp [hop, Op.operands])]; exact id
 · rename_i t x i b hop; rw [hev x (by simp [hop, Op.operands]), hev i (by simp [hop, Op.operands])]; exact id
 · rename_i t x lo hi mx b hop
   rw [hev x (by simp [hop, Op.operands])]
   cases lo with
   | none => cases hi with
     | none => exact id
     | some y => simp only [hev y (by simp [hop, Op.operands])]; exact id
   | some z => cases hi with
     | none => simp only [hev z (by simp [hop, Op.operands])]; exact id
     | some y => simp only [hev y (by simp [hop, Op.operands]), hev z (by simp [hop, Op.operands])]; exact id
 · rename_i c b hop
   split
   · rename_i x t hcal hargs htys
     rw [hev x (by
      have : x ∈ c.args.toList := by rw [hargs]; simp
      simp only [hop, Op.operands, Call.operands]
      simp at this
      simp [this])]
     exact id
   · exact id
 · rename_i f first caps b hop
   split
   · rename_i p hf hc
     rw [hev p (by
      have : p ∈ caps.toList := by rw [hc]; simp
      simp at this
      simp [hop, Op.operands, this])]
     exact id
   · exact id
 · exact id
theorem F07 {ev ev' : Operand → SV} : ∀ {l : List Operand}, (∀ x ∈ l, ev x = ev' x) → q07 ev l = q07 ev' l
 | [], _ => rfl
 | x :: l, h => by simp [q07, h x (by simp), F07 (l := l) (fun y hy => h y (by simp [hy]))]
theorem G0n (hev : ∀ x ∈ o.op.operands, ev x = ev' x) (h : b06 P Shp V rt o ev blk k) : b06 P Shp V rt o ev' blk k := by
 revert h; unfold b06
 split
 · exact id
 · split
   · rename_i op t x y yt hop
     rw [hev x (by simp [hop, Op.operands]), hev y (by simp [hop, Op.operands])]; exact id
   · rename_i c hop
     have hc : ∀ x ∈ c.args.toList, ev x = ev' x := fun x hx => hev x (by
      simp only [hop, Op.operands, Call.operands]
      simp at hx
      simp [hx])
     split
     · rename_i x y hcal hargs
       rw [hargs] at hc
       rw [hc x (by simp), hc y (by simp)]; exact id
     · rename_i x y hcal hargs
       rw [hargs] at hc
       rw [hc x (by simp), hc y (by simp)]; exact id
     · rw [F07 hc]; exact id
     · exact id
   · rename_i t x ix hop
     rw [hev x (by simp [hop, Op.operands]), hev ix (by simp [hop, Op.operands])]; exact id
   · rename_i t x lo hi mx hop
     rw [hev x (by simp [hop, Op.operands]), hev mx (by simp [hop, Op.operands])]
     cases lo with
     | none => cases hi with
       | none => exact id
       | some y => simp only [hev y (by simp [hop, Op.operands])]; exact id
     | some z => cases hi with
       | none => simp only [hev z (by simp [hop, Op.operands])]; exact id
       | some y => simp only [hev y (by simp [hop, Op.operands]), hev z (by simp [hop, Op.operands])]; exact id
   · exact id
theorem H0n (hev : ∀ x ∈ o.op.operands, ev x = ev' x) (h : c06 P Shp V rt o ev blk k) : c06 P Shp V rt o ev' blk k := by
 revert h; unfold c06
 split
 · rename_i c ob hop
   have hc : ∀ x ∈ c.args.toList, ev x = ev' x := fun x hx => hev x (by
    simp only [hop, Op.operands, Call.operands]
    simp at hx
    simp [hx])
   split
   · rename_i x y t t2 hcal hargs htys
     rw [hargs] at hc
     rw [hc x (by simp), hc y (by simp)]; exact id
   · exact id
 · exact id
theorem u0l {an : An} (hev : ∀ x ∈ o.op.operands, ev x = ev' x) (h : t07 P Shp V an o ev blk k) : t07 P Shp V an o ev' blk k := by
 revert h; unfold t07
 split
 · exact D0n hev
 · exact p0p hev
 · exact E0n hev
 · exact q0p hev
 · exact s0l hev
 · exact t0l hev
 · exact G0n hev
 · exact H0n hev
 · exact s0p hev
 · exact F0n hev
 · split
   · exact b0f hev
   · exact id
 · unfold f0c; split
   · rename_i t x b hop; rw [hev x (by simp [hop, Op.operands])]; exact id
   · rename_i c x y b hop; rw [hev c (by simp [hop, Op.operands]), hev x (by simp [hop, Op.operands]), hev y (by simp [hop, Op.operands])]; exact id
   · exact id
 · split
   · exact b0f hev
   · exact id
 · split
   · exact b0f hev
   · exact id
end congr
