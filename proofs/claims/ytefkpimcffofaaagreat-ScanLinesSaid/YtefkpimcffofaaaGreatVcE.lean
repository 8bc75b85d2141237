/- Part. -/
import Derived.Test.YtefkpimcffofaaaGreatVcD
namespace Go.Vc
open Go Go.RowKit
section laws
variable {P : Program} {Shp : L04} {V : View} {rt : Nat} {o : Oper} {ev : Operand → SV} {blk : Option (Option OB)} {k k' : SV → Option OB → Prop}
theorem P0q {fl : Nat} {k : SV → Prop} (h : gen P fl o ev k) : ∃ s, k s ∧ gen P fl o ev (fun s' => s' = s) := by
 revert h; unfold gen
 split
 · split
   · intro h; exact ⟨_, h, rfl⟩
   · intro h; exact h.elim
 · rintro ⟨v, hv, h⟩; exact ⟨_, h, v, hv, rfl⟩
 · intro h; exact h.elim
theorem m09 {fl : Nat} {k k' : SV → Prop} (hk : ∀ s, k s → k' s) (h : gen P fl o ev k) : gen P fl o ev k' := by
 revert h; unfold gen
 split
 · split
   · intro h; exact hk _ h
   · intro h; exact h.elim
 · rintro ⟨v, hv, h⟩; exact ⟨v, hv, hk _ h⟩
 · intro h; exact h.elim
theorem M0t {b : Option OB} {s : SV} (h : litK b k s) : ∃ s' ob, k s' ob ∧ litK b (fun s2 ob2 => s2 = s' ∧ ob2 = ob) s := by
 unfold litK at h
 split at h
 · exact ⟨_, _, h, rfl, rfl⟩
 · exact ⟨_, _, h, rfl, rfl⟩
 · exact h.elim
theorem Q0k {b : Option OB} {k k' : SV → Option OB → Prop} (hk : ∀ s, k s b → k' s b) {s : SV} (h : litK b k s) : litK b k' s := by
 unfold litK at h
 split at h
 · exact hk _ h
 · exact hk _ h
 · exact h.elim
theorem N0t (h : w06 P Shp V rt o ev blk k) : ∃ s ob, k s ob ∧ w06 P Shp V rt o ev blk (fun s' ob' => s' = s ∧ ob' = ob) := by
 revert h; unfold w06
 repeat' split
 all_goals first
  | (intro h; exact h.elim)
  | (intro h; exact ⟨_, _, h, rfl, rfl⟩)
theorem B0u (h : n0a P Shp V rt o ev blk k) : ∃ s ob, k s ob ∧ n0a P Shp V rt o ev blk (fun s' ob' => s' = s ∧ ob' = ob) := by
 revert h; unfold n0a
 repeat' split
 all_goals first
  | (intro h; exact h.elim)
  | (intro h; exact h.2.elim)
  | (intro h; exact ⟨_, _, h, rfl, rfl⟩)
  | (intro h; exact ⟨_, _, h.2, h.1, rfl, rfl⟩)
theorem O0t (h : s07 P Shp V rt o ev blk k) : ∃ s ob, k s ob ∧ s07 P Shp V rt o ev blk (fun s' ob' => s' = s ∧ ob' = ob) := by
 revert h; unfold s07
 repeat' split
 all_goals first
  | (intro h; exact h.elim)
  | (intro h; exact ⟨_, _, h, rfl, rfl⟩)
  | (rintro ⟨x, hx, h⟩; exact ⟨_, _, h, x, hx, rfl, rfl⟩)
  | (rintro ⟨x, hx, h⟩
     split at h
     · rename_i hv
       split at h
       · rename_i hb
         exact ⟨_, _, h, x, hx, by rw [hv]; simp [hb]⟩
       · exact h.elim
     · exact h.elim)
theorem C0u (h : t07 P Shp V rt o ev blk k) : ∃ s ob, k s ob ∧ t07 P Shp V rt o ev blk (fun s' ob' => s' = s ∧ ob' = ob) := by
 revert h; unfold t07
 repeat' split
 all_goals first
  | (intro h; exact h.elim)
  | (rintro ⟨x, hx, h⟩; exact ⟨_, _, h, x, hx, rfl, rfl⟩)
  | (rintro ⟨x, hx, hs, h1, h⟩; exact ⟨_, _, h, x, hx, hs, h1, rfl, rfl⟩)
  | (rintro ⟨x, hx, hs, h⟩
     split at h
     · rename_i hv
       split at h
       · rename_i hb
         exact ⟨_, _, h, x, hx, hs, by rw [hv]; simp [hb]⟩
       · exact h.elim
     · exact h.elim)
theorem D0u (h : Z08 P Shp V rt o ev blk k) : ∃ s ob, k s ob ∧ Z08 P Shp V rt o ev blk (fun s' ob' => s' = s ∧ ob' = ob) := by
 revert h; unfold Z08
 repeat' split
 all_goals first
  | (intro h; exact h.elim)
  | (rintro ⟨x, hx, h⟩; exact ⟨_, _, h, x, hx, rfl, rfl⟩)
  | (rintro ⟨x, hx, hs, h1, h⟩; exact ⟨_, _, h, x, hx, hs, h1, rfl, rfl⟩)
  | (rintro ⟨x, hx, hs, h⟩
     split at h
     · rename_i hv
       split at h
       · rename_i hb
         exact ⟨_, _, h, x, hx, hs, by rw [hv]; simp [hb]⟩
       · exact h.elim
     · exact h.elim)
theorem P0t (h : d08 P Shp V rt o ev blk k) : ∃ s ob, k s ob ∧ d08 P Shp V rt o ev blk (fun s' ob' => s' = s ∧ ob' = ob) := by
 revert h; unfold d08
 repeat' split
 all_goals first
  | (intro h; exact h.elim)
  | (rintro ⟨b, off, cs, h0, h1, h2, h⟩; exact ⟨_, _, h, b, off, cs, h0, h1, h2, rfl, rfl⟩)
theorem E0s (h : L06 P Shp V rt o ev blk k) : ∃ s ob, k s ob ∧ L06 P Shp V rt o ev blk (fun s' ob' => s' = s ∧ ob' = ob) := by
 revert h; unfold L06
 repeat' split
 all_goals first
  | (intro h; exact h.elim)
  | (intro h; exact ⟨_, _, h, rfl, rfl⟩)
  | (intro h; exact ⟨_, _, h.2, h.1, rfl, rfl⟩)
theorem F0s (h : P04 P Shp V rt o ev blk k) : ∃ s ob, k s ob ∧ P04 P Shp V rt o ev blk (fun s' ob' => s' = s ∧ ob' = ob) := by
 revert h; unfold P04
 repeat' split
 all_goals first
  | (intro h; exact h.elim)
  | (intro h; exact ⟨_, _, h, rfl, rfl⟩)
  | (intro h; exact ⟨_, _, h.2, h.1, rfl, rfl⟩)
theorem Q0t (h : u07 P Shp V rt o ev blk k) : ∃ s ob, k s ob ∧ u07 P Shp V rt o ev blk (fun s' ob' => s' = s ∧ ob' = ob) := by
 revert h; unfold u07
 repeat' split
 all_goals first
  | (intro h; exact h.elim)
  | (intro h; exact ⟨_, _, h.2, h.1, rfl, rfl⟩)
  | (rintro ⟨x, hx, h⟩; exact ⟨_, _, h, x, hx, rfl, rfl⟩)
  | (rintro ⟨h0, x, hx, h⟩
     split at h
     · rename_i hv
       split at h
       · rename_i hb
         exact ⟨_, _, h, h0, x, hx, by rw [hv]; simp [hb]⟩
       · exact h.elim
     · exact h.elim)
theorem S0t (h : w07 P Shp V rt o ev blk k) : ∃ s ob, k s ob ∧ w07 P Shp V rt o ev blk (fun s' ob' => s' = s ∧ ob' = ob) := by
 revert h; unfold w07
 repeat' split
 all_goals first
  | (intro h; exact h.elim)
  | (rintro ⟨vs, h1, h2, h3, h4, h5, h⟩; exact ⟨_, _, h, vs, h1, h2, h3, h4, h5, rfl, rfl⟩)
theorem c0o {an : An} (h : a09 P Shp V an o ev blk k) : ∃ s ob, k s ob ∧ a09 P Shp V an o ev blk (fun s' ob' => s' = s ∧ ob' = ob) := by
 revert h; unfold a09
 split
 · exact N0t
 · exact B0u
 · exact O0t
 · exact C0u
 · exact E0s
 · exact F0s
 · exact Q0t
 · exact S0t
 · exact D0u
 · exact P0t
 · split
   · intro h; obtain ⟨s, hk, hg⟩ := P0q h
     obtain ⟨s', ob, hk', hl⟩ := M0t hk
     exact ⟨s', ob, hk', m09 (fun s2 e => by rw [e]; exact hl) hg⟩
   · intro h; exact h.elim
 · unfold L0d
   repeat' split
   all_goals first
    | (intro h; exact h.elim)
    | (intro h; exact ⟨_, _, h, rfl, rfl⟩)
 · split
   · intro h; obtain ⟨s, hk, hg⟩ := P0q h; exact ⟨s, _, hk, m09 (fun s' e => ⟨e, rfl⟩) hg⟩
   · intro h; exact h.elim
 · split
   · intro h; obtain ⟨s, hk, hg⟩ := P0q h; exact ⟨s, _, hk, m09 (fun s' e => ⟨e, rfl⟩) hg⟩
   · intro h; exact h.elim
theorem Q0e {an : An} (hk : ∀ s ob, k s ob → k' s ob) (h : a09 P Shp V an o ev blk k) : a09 P Shp V an o ev blk k' := by
 revert h; unfold a09
 split
 · unfold w06; repeat' split
   all_goals first
    | (intro h; exact h.elim)
    | (intro h; exact hk _ _ h)
 · unfold n0a; repeat' split
   all_goals first
    | (intro h; exact h.elim)
    | (intro h; exact h.2.elim)
    | (intro h; exact hk _ _ h)
    | (intro h; exact ⟨h.1, hk _ _ h.2⟩)
 · unfold s07; repeat' split
   all_goals first
    | (intro h; exact h.elim)
    | (intro h; exact hk _ _ h)
    | (rintro ⟨x, hx, h⟩; exact ⟨x, hx, hk _ _ h⟩)
    | (rintro ⟨x, hx, h⟩
       refine ⟨x, hx, ?_⟩
       revert h
       split
       · split
         · exact hk _ _
         · exact id
       · exact id)
 · unfold t07; repeat' split
   all_goals first
    | (intro h; exact h.elim)
    | (rintro ⟨x, hx, h⟩; exact ⟨x, hx, hk _ _ h⟩)
    | (rintro ⟨x, hx, hs, h1, h⟩; exact ⟨x, hx, hs, h1, hk _ _ h⟩)
    | (rintro ⟨x, hx, hs, h⟩
       refine ⟨x, hx, hs, ?_⟩
       revert h
       split
       · split
         · exact hk _ _
         · exact id
       · exact id)
 · unfold L06; repeat' split
   all_goals first
    | (intro h; exact h.elim)
    | (intro h; exact hk _ _ h)
    | (intro h; exact ⟨h.1, hk _ _ h.2⟩)
 · unfold P04; repeat' split
   all_goals first
    | (intro h; exact h.elim)
    | (intro h; exact hk _ _ h)
    | (intro h; exact ⟨h.1, hk _ _ h.2⟩)
 · unfold u07; repeat' split
   all_goals first
    | (intro h; exact h.elim)
    | (intro h; exact ⟨h.1, hk _ _ h.2⟩)
    | (rintro ⟨x, hx, h⟩; exact ⟨x, hx, hk _ _ h⟩)
    | (rintro ⟨h0, x, hx, h⟩
       refine ⟨h0, x, hx, ?_⟩
       revert h
       split
       · split
         · exact hk _ _
         · exact id
       · exact id)
 · unfold w07; repeat' split
   all_goals first
    | (intro h; exact h.elim)
    | (rintro ⟨vs, h1, h2, h3, h4, h5, h⟩; exact ⟨vs, h1, h2, h3, h4, h5, hk _ _ h⟩)
 · unfold Z08; repeat' split
   all_goals first
    | (intro h; exact h.elim)
    | (rintro ⟨x, hx, h⟩; exact ⟨x, hx, hk _ _ h⟩)
    | (rintro ⟨x, hx, hs, h⟩
       refine ⟨x, hx, hs, ?_⟩
       revert h
       split
       · split
         · exact hk _ _
         · exact id
       · exact id)
 · unfold d08; repeat' split
   all_goals first
    | (intro h; exact h.elim)
    | (rintro ⟨b, off, cs, h0, h1, h2, h⟩; exact ⟨b, off, cs, h0, h1, h2, hk _ _ h⟩)
 · split
   · exact m09 (fun s => Q0k (fun s => hk s _))
   · exact id
 · unfold L0d; repeat' split
   all_goals first
    | (intro h; exact h.elim)
    | (intro h; exact hk _ _ h)
 · split
   · exact m09 (fun s => hk s _)
   · exact id
 · split
   · exact m09 (fun s => hk s _)
   · exact id
theorem e0p {an : An} {V' : View} (hV : V.le V') (h : a09 P Shp V an o ev blk k) : a09 P Shp V' an o ev blk k := by
 revert h; unfold a09
 split
 · exact id
 · exact id
 · exact id
 · unfold t07; repeat' split
   all_goals first
    | exact id
    | (rintro ⟨x, hx, h⟩; exact ⟨x, K02 hV hx, h⟩)
    | (rintro ⟨x, hx, hs, h⟩; exact ⟨x, x01 hV hx, hs, h⟩)
 · exact id
 · exact id
 · exact id
 · unfold w07; repeat' split
   all_goals first
    | exact id
    | (rintro ⟨vs, h1, h2, h3, h4, h5, h⟩; exact ⟨vs, x01 hV h1, h2, h3, h4, h5, h⟩)
 · unfold Z08; repeat' split
   all_goals first
    | exact id
    | (rintro ⟨x, hx, h⟩; exact ⟨x, B0s hV hx, h⟩)
    | (rintro ⟨x, hx, hs, h⟩; exact ⟨x, m0g hV hx, hs, h⟩)
 · exact id
 · split <;> exact id
 · exact id
 · split <;> exact id
 · split <;> exact id
theorem f0p {an : An} {b : Option OB} (h3 : an.fl ≠ 3) (h6 : an.fl ≠ 6) (h16 : an.fl ≠ 16) (h23 : an.fl ≠ 23) (h : a09 P Shp V an o ev (some b) k) : a09 P Shp V an o ev (some b) (fun s ob => ob = b ∧ k s ob) := by
 revert h; unfold a09
 split
 · unfold w06; repeat' split
   all_goals first
    | (intro h; exact h.elim)
    | (intro h; simp_all; done)
 · contradiction
 · unfold s07; repeat' split
   all_goals first
    | (intro h; exact h.elim)
    | (intro h; simp_all; done)
    | (rintro ⟨x, hx, h⟩; refine ⟨x, hx, ?_⟩; simp_all; done)
    | (rintro ⟨x, hx, h⟩
       refine ⟨x, hx, ?_⟩
       revert h
       split
       · split
         · intro h; simp_all
         · exact id
       · exact id)
 · unfold t07; repeat' split
   all_goals first
    | (intro h; exact h.elim)
    | (rintro ⟨x, hx, h⟩; refine ⟨x, hx, ?_⟩; simp_all; done)
    | (rintro ⟨x, hx, hs, h1, h⟩; refine ⟨x, hx, hs, h1, ?_⟩; simp_all; done)
    | (rintro ⟨x, hx, hs, h⟩
       refine ⟨x, hx, hs, ?_⟩
       revert h
       split
       · split
         · intro h; simp_all
         · exact id
       · exact id)
 · contradiction
 · unfold P04; repeat' split
   all_goals first
    | (intro h; exact h.elim)
    | (intro h; simp_all; done)
 · unfold u07; repeat' split
   all_goals first
    | (intro h; exact h.elim)
    | (intro h; simp_all; done)
    | (rintro ⟨x, hx, h⟩; refine ⟨x, hx, ?_⟩; simp_all; done)
 · contradiction
 · unfold Z08; repeat' split
   all_goals first
    | (intro h; exact h.elim)
    | (rintro ⟨x, hx, h⟩; refine ⟨x, hx, ?_⟩; simp_all; done)
    | (rintro ⟨x, hx, hs, h⟩
       refine ⟨x, hx, hs, ?_⟩
       revert h
       split
       · split
         · intro h; simp_all
         · exact id
       · exact id)
 · contradiction
 · exact m09 (fun s => Q0k (fun s h => ⟨rfl, h⟩))
 · unfold L0d; repeat' split
   all_goals first
    | (intro h; exact h.elim)
    | (intro h; simp_all; done)
 · exact m09 (fun s h => ⟨rfl, h⟩)
 · exact m09 (fun s h => ⟨rfl, h⟩)
end laws
section congr
variable {P : Program} {Shp : L04} {V : View} {rt : Nat} {o : Oper} {ev ev' : Operand → SV} {blk : Option (Option OB)} {k : SV → Option OB → Prop}
theorem S0e {α : Type} {p q : α → Bool} : ∀ {l : List α}, (∀ x ∈ l, p x = q x) → l.all p = l.all q
 | [], _ => rfl
 | x :: l, h => by simp [h x (by simp), S0e (l := l) (fun y hy => h y (by simp [hy]))]
theorem s0g {fl : Nat} {k : SV → Prop} (hev : ∀ x ∈ o.op.operands, ev x = ev' x) (h : gen P fl o ev k) : gen P fl o ev' k := by
 have h1 : o.op.operands.toList.all (fun x => (ev x).asVal.isSome) = o.op.operands.toList.all (fun x => (ev' x).asVal.isSome) :=
  S0e fun x hx => by rw [hev x (by simpa using hx)]
 cases hs : b0e o.op with
 | true => unfold gen at h; rw [hs] at h; exact h.elim
 | false =>
   have h2 : execOp (rho ev) o = execOp (rho ev') o :=
    execOp_congr o (by intro cs b e; rw [e] at hs; simp [b0e] at hs) (fun x hx => by simp [rho, hev x hx])
   unfold gen at h ⊢
   rw [← h1, ← h2]; exact h
theorem g0p (hev : ∀ x ∈ o.op.operands, ev x = ev' x) (h : w06 P Shp V rt o ev blk k) : w06 P Shp V rt o ev' blk k := by
 revert h; unfold w06
 split
 · rename_i x hop; rw [hev x (by simp [hop, Op.operands])]; exact id
 · rename_i x hop; rw [hev x (by simp [hop, Op.operands])]; exact id
 · rename_i c x y hop; rw [hev c (by simp [hop, Op.operands]), hev x (by simp [hop, Op.operands]), hev y (by simp [hop, Op.operands])]; exact id
 · rename_i x i hop; rw [hev x (by simp [hop, Op.operands])]; exact id
 · exact id
theorem x08 {o : Oper} {ev ev' : Operand → SV} (hev : ∀ x ∈ o.op.operands, ev x = ev' x) : c0e P o ev = c0e P o ev' := by
 unfold c0e
 split
 · rename_i t n parts hop
   have hp : ∀ p ∈ parts.toList, ev p.2 = ev' p.2 := fun p hp => hev p.2 (by simp [hop, Op.operands]; exact ⟨p.1, by simpa using hp⟩)
   have h1 : parts.toList.all (fun p => (ev p.2).asVal.isSome) = parts.toList.all (fun p => (ev' p.2).asVal.isSome) := S0e fun p h => by rw [hp p h]
   have h2 : (parts.toList.map fun p => (p.1, rho ev p.2)) = parts.toList.map fun p => (p.1, rho ev' p.2) := List.map_congr_left fun p h => by simp [rho, hp p h]
   rw [h1, h2]
 · rfl
theorem Q0q (hev : ∀ x ∈ o.op.operands, ev x = ev' x) (h : n0a P Shp V rt o ev blk k) : n0a P Shp V rt o ev' blk k := by
 revert h; unfold n0a
 split
 · exact id
 · rename_i t x hop; rw [hev x (by simp [hop, Op.operands])]; exact id
 · rename_i t n c hop; rw [hev n (by simp [hop, Op.operands]), hev c (by simp [hop, Op.operands])]; exact id
 · rename_i t n parts hop; rw [x08 hev]; exact id
 · exact id
theorem i0p (hev : ∀ x ∈ o.op.operands, ev x = ev' x) (h : s07 P Shp V rt o ev blk k) : s07 P Shp V rt o ev' blk k := by
 revert h; unfold s07
 split
 · rename_i t p ob hop; rw [hev p (by simp [hop, Op.operands])]; exact id
 · exact id
theorem S0q (hev : ∀ x ∈ o.op.operands, ev x = ev' x) (h : t07 P Shp V rt o ev blk k) : t07 P Shp V rt o ev' blk k := by
 revert h; unfold t07
 split
 · rename_i t p b hop; rw [hev p (by simp [hop, Op.operands])]; exact id
 · rename_i src dst x b hop; rw [hev x (by simp [hop, Op.operands])]; exact id
 · exact id
theorem K0m (hev : ∀ x ∈ o.op.operands, ev x = ev' x) (h : L06 P Shp V rt o ev blk k) : L06 P Shp V rt o ev' blk k := by
 revert h; unfold L06
 split
 · rename_i t p x ob hop; rw [hev p (by simp [hop, Op.operands]), hev x (by simp [hop, Op.operands])]; exact id
 · exact id
theorem T0q (hev : ∀ x ∈ o.op.operands, ev x = ev' x) (h : Z08 P Shp V rt o ev blk k) : Z08 P Shp V rt o ev' blk k := by
 revert h; unfold Z08
 split
 · rename_i t p ty m hop; rw [hev p (by simp [hop, Op.operands])]; exact id
 · exact id
theorem j0p (hev : ∀ x ∈ o.op.operands, ev x = ev' x) (h : d08 P Shp V rt o ev blk k) : d08 P Shp V rt o ev' blk k := by
 revert h; unfold d08
 split
 · rename_i t p x ty m hop; rw [hev p (by simp [hop, Op.operands]), hev x (by simp [hop, Op.operands])]; exact id
 · exact id
theorem L0m (hev : ∀ x ∈ o.op.operands, ev x = ev' x) (h : P04 P Shp V rt o ev blk k) : P04 P Shp V rt o ev' blk k := by
 revert h; unfold P04
 split
 · rename_i s p f b hop; rw [hev p (by simp [hop, Op.operands])]; exact id
 · rename_i t x i b hop; rw [hev x (by simp [hop, Op.operands]), hev i (by simp [hop, Op.operands])]; exact id
 · rename_i t x lo hi mx b hop
   rw [hev x (by simp [hop, Op.operands])]
   cases lo with
   | none => cases hi with
     | none => exact id
     | some y => simp only [hev y (by simp [hop, Op.operands])]; exact id
   | some z => cases hi with
     | none => simp only [hev z (by simp [hop, Op.operands])]; exact id
     | some y => simp only [hev y (by simp [hop, Op.operands]), hev z (by simp [hop, Op.operands])]; exact id
 · rename_i c b hop
   split
   · rename_i x t hcal hargs htys
     rw [hev x (by
      have : x ∈ c.args.toList := by rw [hargs]; simp
      simp only [hop, Op.operands, Call.operands]
      simp at this
      simp [this])]
     exact id
   · exact id
 · rename_i f first caps b hop
   split
   · rename_i p hf hc
     rw [hev p (by
      have : p ∈ caps.toList := by rw [hc]; simp
      simp at this
      simp [hop, Op.operands, this])]
     exact id
   · exact id
 · exact id
theorem n09 {ev ev' : Operand → SV} : ∀ {l : List Operand}, (∀ x ∈ l, ev x = ev' x) → Y08 ev l = Y08 ev' l
 | [], _ => rfl
 | x :: l, h => by simp [Y08, h x (by simp), n09 (l := l) (fun y hy => h y (by simp [hy]))]
theorem k0p (hev : ∀ x ∈ o.op.operands, ev x = ev' x) (h : u07 P Shp V rt o ev blk k) : u07 P Shp V rt o ev' blk k := by
 revert h; unfold u07
 split
 · exact id
 · split
   · rename_i op t x y yt hop
     rw [hev x (by simp [hop, Op.operands]), hev y (by simp [hop, Op.operands])]; exact id
   · rename_i c hop
     have hc : ∀ x ∈ c.args.toList, ev x = ev' x := fun x hx => hev x (by
      simp only [hop, Op.operands, Call.operands]
      simp at hx
      simp [hx])
     split
     · rename_i x y hcal hargs
       rw [hargs] at hc
       rw [hc x (by simp), hc y (by simp)]; exact id
     · rename_i x y hcal hargs
       rw [hargs] at hc
       rw [hc x (by simp), hc y (by simp)]; exact id
     · rw [n09 hc]; exact id
     · exact id
   · rename_i t x ix hop
     rw [hev x (by simp [hop, Op.operands]), hev ix (by simp [hop, Op.operands])]; exact id
   · rename_i t x lo hi mx hop
     rw [hev x (by simp [hop, Op.operands]), hev mx (by simp [hop, Op.operands])]
     cases lo with
     | none => cases hi with
       | none => exact id
       | some y => simp only [hev y (by simp [hop, Op.operands])]; exact id
     | some z => cases hi with
       | none => simp only [hev z (by simp [hop, Op.operands])]; exact id
       | some y => simp only [hev y (by simp [hop, Op.operands]), hev z (by simp [hop, Op.operands])]; exact id
   · exact id
theorem l0p (hev : ∀ x ∈ o.op.operands, ev x = ev' x) (h : w07 P Shp V rt o ev blk k) : w07 P Shp V rt o ev' blk k := by
 revert h; unfold w07
 split
 · rename_i c ob hop
   have hc : ∀ x ∈ c.args.toList, ev x = ev' x := fun x hx => hev x (by
    simp only [hop, Op.operands, Call.operands]
    simp at hx
    simp [hx])
   split
   · rename_i x y t t2 hcal hargs htys
     rw [hargs] at hc
     rw [hc x (by simp), hc y (by simp)]; exact id
   · exact id
 · exact id
theorem M0m {an : An} (hev : ∀ x ∈ o.op.operands, ev x = ev' x) (h : a09 P Shp V an o ev blk k) : a09 P Shp V an o ev' blk k := by
 revert h; unfold a09
 split
 · exact g0p hev
 · exact Q0q hev
 · exact i0p hev
 · exact S0q hev
 · exact K0m hev
 · exact L0m hev
 · exact k0p hev
 · exact l0p hev
 · exact T0q hev
 · exact j0p hev
 · split
   · exact s0g hev
   · exact id
 · unfold L0d; split
   · rename_i t x b hop; rw [hev x (by simp [hop, Op.operands])]; exact id
   · rename_i c x y b hop; rw [hev c (by simp [hop, Op.operands]), hev x (by simp [hop, Op.operands]), hev y (by simp [hop, Op.operands])]; exact id
   · exact id
 · split
   · exact s0g hev
   · exact id
 · split
   · exact s0g hev
   · exact id
end congr
