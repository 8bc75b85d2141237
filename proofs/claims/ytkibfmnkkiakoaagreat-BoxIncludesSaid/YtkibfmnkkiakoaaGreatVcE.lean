/- Part. -/
import Derived.Test.YtkibfmnkkiakoaaGreatVcD
namespace Go.Vc
open Go Go.RowKit
section laws
variable {P : Program} {Shp : G02} {V : View} {rt : Nat} {o : Oper} {ev : Operand → SV} {blk : Option (Option OB)} {k k' : SV → Option OB → Prop}
theorem m0q {fl : Nat} {k : SV → Prop} (h : gen P fl o ev k) : ∃ s, k s ∧ gen P fl o ev (fun s' => s' = s) := by
 revert h; unfold gen
 split
 · split
   · intro h; exact ⟨_, h, rfl⟩
   · intro h; exact h.elim
 · rintro ⟨v, hv, h⟩; exact ⟨_, h, v, hv, rfl⟩
 · intro h; exact h.elim
theorem O05 {fl : Nat} {k k' : SV → Prop} (hk : ∀ s, k s → k' s) (h : gen P fl o ev k) : gen P fl o ev k' := by
 revert h; unfold gen
 split
 · split
   · intro h; exact hk _ h
   · intro h; exact h.elim
 · rintro ⟨v, hv, h⟩; exact ⟨v, hv, hk _ h⟩
 · intro h; exact h.elim
theorem i0u {b : Option OB} {s : SV} (h : litK b k s) : ∃ s' ob, k s' ob ∧ litK b (fun s2 ob2 => s2 = s' ∧ ob2 = ob) s := by
 unfold litK at h
 split at h
 · exact ⟨_, _, h, rfl, rfl⟩
 · exact ⟨_, _, h, rfl, rfl⟩
 · exact h.elim
theorem X0i {b : Option OB} {k k' : SV → Option OB → Prop} (hk : ∀ s, k s b → k' s b) {s : SV} (h : litK b k s) : litK b k' s := by
 unfold litK at h
 split at h
 · exact hk _ h
 · exact hk _ h
 · exact h.elim
theorem j0u (h : F03 P Shp V rt o ev blk k) : ∃ s ob, k s ob ∧ F03 P Shp V rt o ev blk (fun s' ob' => s' = s ∧ ob' = ob) := by
 revert h; unfold F03
 repeat' split
 all_goals first
  | (intro h; exact h.elim)
  | (intro h; exact ⟨_, _, h, rfl, rfl⟩)
theorem e0v (h : L06 P Shp V rt o ev blk k) : ∃ s ob, k s ob ∧ L06 P Shp V rt o ev blk (fun s' ob' => s' = s ∧ ob' = ob) := by
 revert h; unfold L06
 repeat' split
 all_goals first
  | (intro h; exact h.elim)
  | (intro h; exact h.2.elim)
  | (intro h; exact ⟨_, _, h, rfl, rfl⟩)
  | (intro h; exact ⟨_, _, h.2, h.1, rfl, rfl⟩)
theorem k0u (h : B04 P Shp V rt o ev blk k) : ∃ s ob, k s ob ∧ B04 P Shp V rt o ev blk (fun s' ob' => s' = s ∧ ob' = ob) := by
 revert h; unfold B04
 repeat' split
 all_goals first
  | (intro h; exact h.elim)
  | (intro h; exact ⟨_, _, h, rfl, rfl⟩)
  | (rintro ⟨x, hx, h⟩; exact ⟨_, _, h, x, hx, rfl, rfl⟩)
  | (rintro ⟨x, hx, h⟩
     split at h
     · rename_i hv
       split at h
       · rename_i hb
         exact ⟨_, _, h, x, hx, by rw [hv]; simp [hb]⟩
       · exact h.elim
     · exact h.elim)
theorem f0v (h : I05 P Shp V rt o ev blk k) : ∃ s ob, k s ob ∧ I05 P Shp V rt o ev blk (fun s' ob' => s' = s ∧ ob' = ob) := by
 revert h; unfold I05
 repeat' split
 all_goals first
  | (intro h; exact h.elim)
  | (rintro ⟨x, hx, h⟩; exact ⟨_, _, h, x, hx, rfl, rfl⟩)
  | (rintro ⟨x, hx, hs, h1, h⟩; exact ⟨_, _, h, x, hx, hs, h1, rfl, rfl⟩)
  | (rintro ⟨x, hx, hs, h⟩
     split at h
     · rename_i hv
       split at h
       · rename_i hb
         exact ⟨_, _, h, x, hx, hs, by rw [hv]; simp [hb]⟩
       · exact h.elim
     · exact h.elim)
theorem z0s (h : Q03 P Shp V rt o ev blk k) : ∃ s ob, k s ob ∧ Q03 P Shp V rt o ev blk (fun s' ob' => s' = s ∧ ob' = ob) := by
 revert h; unfold Q03
 repeat' split
 all_goals first
  | (intro h; exact h.elim)
  | (intro h; exact ⟨_, _, h, rfl, rfl⟩)
  | (intro h; exact ⟨_, _, h.2, h.1, rfl, rfl⟩)
theorem A0s (h : Q02 P Shp V rt o ev blk k) : ∃ s ob, k s ob ∧ Q02 P Shp V rt o ev blk (fun s' ob' => s' = s ∧ ob' = ob) := by
 revert h; unfold Q02
 repeat' split
 all_goals first
  | (intro h; exact h.elim)
  | (intro h; exact ⟨_, _, h, rfl, rfl⟩)
  | (intro h; exact ⟨_, _, h.2, h.1, rfl, rfl⟩)
theorem l0u (h : C04 P Shp V rt o ev blk k) : ∃ s ob, k s ob ∧ C04 P Shp V rt o ev blk (fun s' ob' => s' = s ∧ ob' = ob) := by
 revert h; unfold C04
 repeat' split
 all_goals first
  | (intro h; exact h.elim)
  | (intro h; exact ⟨_, _, h.2, h.1, rfl, rfl⟩)
  | (rintro ⟨x, hx, h⟩; exact ⟨_, _, h, x, hx, rfl, rfl⟩)
theorem m0u (h : D04 P Shp V rt o ev blk k) : ∃ s ob, k s ob ∧ D04 P Shp V rt o ev blk (fun s' ob' => s' = s ∧ ob' = ob) := by
 revert h; unfold D04
 repeat' split
 all_goals first
  | (intro h; exact h.elim)
  | (rintro ⟨vs, h1, h2, h3, h4, h5, h⟩; exact ⟨_, _, h, vs, h1, h2, h3, h4, h5, rfl, rfl⟩)
theorem W0m {an : An} (h : d06 P Shp V an o ev blk k) : ∃ s ob, k s ob ∧ d06 P Shp V an o ev blk (fun s' ob' => s' = s ∧ ob' = ob) := by
 revert h; unfold d06
 split
 · exact j0u
 · exact e0v
 · exact k0u
 · exact f0v
 · exact z0s
 · exact A0s
 · exact l0u
 · exact m0u
 · split
   · intro h; obtain ⟨s, hk, hg⟩ := m0q h
     obtain ⟨s', ob, hk', hl⟩ := i0u hk
     exact ⟨s', ob, hk', O05 (fun s2 e => by rw [e]; exact hl) hg⟩
   · intro h; exact h.elim
 · unfold K09
   repeat' split
   all_goals first
    | (intro h; exact h.elim)
    | (intro h; exact ⟨_, _, h, rfl, rfl⟩)
 · split
   · intro h; obtain ⟨s, hk, hg⟩ := m0q h; exact ⟨s, _, hk, O05 (fun s' e => ⟨e, rfl⟩) hg⟩
   · intro h; exact h.elim
 · split
   · intro h; obtain ⟨s, hk, hg⟩ := m0q h; exact ⟨s, _, hk, O05 (fun s' e => ⟨e, rfl⟩) hg⟩
   · intro h; exact h.elim
theorem A0b {an : An} (hk : ∀ s ob, k s ob → k' s ob) (h : d06 P Shp V an o ev blk k) : d06 P Shp V an o ev blk k' := by
 revert h; unfold d06
 split
 · unfold F03; repeat' split
   all_goals first
    | (intro h; exact h.elim)
    | (intro h; exact hk _ _ h)
 · unfold L06; repeat' split
   all_goals first
    | (intro h; exact h.elim)
    | (intro h; exact h.2.elim)
    | (intro h; exact hk _ _ h)
    | (intro h; exact ⟨h.1, hk _ _ h.2⟩)
 · unfold B04; repeat' split
   all_goals first
    | (intro h; exact h.elim)
    | (intro h; exact hk _ _ h)
    | (rintro ⟨x, hx, h⟩; exact ⟨x, hx, hk _ _ h⟩)
    | (rintro ⟨x, hx, h⟩
       refine ⟨x, hx, ?_⟩
       revert h
       split
       · split
         · exact hk _ _
         · exact id
       · exact id)
 · unfold I05; repeat' split
   all_goals first
    | (intro h; exact h.elim)
    | (rintro ⟨x, hx, h⟩; exact ⟨x, hx, hk _ _ h⟩)
    | (rintro ⟨x, hx, hs, h1, h⟩; exact ⟨x, hx, hs, h1, hk _ _ h⟩)
    | (rintro ⟨x, hx, hs, h⟩
       refine ⟨x, hx, hs, ?_⟩
       revert h
       split
       · split
         · exact hk _ _
         · exact id
       · exact id)
 · unfold Q03; repeat' split
   all_goals first
    | (intro h; exact h.elim)
    | (intro h; exact hk _ _ h)
    | (intro h; exact ⟨h.1, hk _ _ h.2⟩)
 · unfold Q02; repeat' split
   all_goals first
    | (intro h; exact h.elim)
    | (intro h; exact hk _ _ h)
    | (intro h; exact ⟨h.1, hk _ _ h.2⟩)
 · unfold C04; repeat' split
   all_goals first
    | (intro h; exact h.elim)
    | (intro h; exact ⟨h.1, hk _ _ h.2⟩)
    | (rintro ⟨x, hx, h⟩; exact ⟨x, hx, hk _ _ h⟩)
 · unfold D04; repeat' split
   all_goals first
    | (intro h; exact h.elim)
    | (rintro ⟨vs, h1, h2, h3, h4, h5, h⟩; exact ⟨vs, h1, h2, h3, h4, h5, hk _ _ h⟩)
 · split
   · exact O05 (fun s => X0i (fun s => hk s _))
   · exact id
 · unfold K09; repeat' split
   all_goals first
    | (intro h; exact h.elim)
    | (intro h; exact hk _ _ h)
 · split
   · exact O05 (fun s => hk s _)
   · exact id
 · split
   · exact O05 (fun s => hk s _)
   · exact id
theorem e0o {an : An} {V' : View} (hV : V.le V') (h : d06 P Shp V an o ev blk k) : d06 P Shp V' an o ev blk k := by
 revert h; unfold d06
 split
 · exact id
 · exact id
 · exact id
 · unfold I05; repeat' split
   all_goals first
    | exact id
    | (rintro ⟨x, hx, h⟩; exact ⟨x, a02 hV hx, h⟩)
    | (rintro ⟨x, hx, hs, h⟩; exact ⟨x, t04 hV hx, hs, h⟩)
 · exact id
 · exact id
 · exact id
 · unfold D04; repeat' split
   all_goals first
    | exact id
    | (rintro ⟨vs, h1, h2, h3, h4, h5, h⟩; exact ⟨vs, t04 hV h1, h2, h3, h4, h5, h⟩)
 · split <;> exact id
 · exact id
 · split <;> exact id
 · split <;> exact id
theorem f0o {an : An} {b : Option OB} (h3 : an.fl ≠ 3) (h6 : an.fl ≠ 6) (h16 : an.fl ≠ 16) (h : d06 P Shp V an o ev (some b) k) : d06 P Shp V an o ev (some b) (fun s ob => ob = b ∧ k s ob) := by
 revert h; unfold d06
 split
 · unfold F03; repeat' split
   all_goals first
    | (intro h; exact h.elim)
    | (intro h; simp_all; done)
 · contradiction
 · unfold B04; repeat' split
   all_goals first
    | (intro h; exact h.elim)
    | (intro h; simp_all; done)
    | (rintro ⟨x, hx, h⟩; refine ⟨x, hx, ?_⟩; simp_all; done)
    | (rintro ⟨x, hx, h⟩
       refine ⟨x, hx, ?_⟩
       revert h
       split
       · split
         · intro h; simp_all
         · exact id
       · exact id)
 · unfold I05; repeat' split
   all_goals first
    | (intro h; exact h.elim)
    | (rintro ⟨x, hx, h⟩; refine ⟨x, hx, ?_⟩; simp_all; done)
    | (rintro ⟨x, hx, hs, h1, h⟩; refine ⟨x, hx, hs, h1, ?_⟩; simp_all; done)
    | (rintro ⟨x, hx, hs, h⟩
       refine ⟨x, hx, hs, ?_⟩
       revert h
       split
       · split
         · intro h; simp_all
         · exact id
       · exact id)
 · contradiction
 · unfold Q02; repeat' split
   all_goals first
    | (intro h; exact h.elim)
    | (intro h; simp_all; done)
 · unfold C04; repeat' split
   all_goals first
    | (intro h; exact h.elim)
    | (intro h; simp_all; done)
    | (rintro ⟨x, hx, h⟩; refine ⟨x, hx, ?_⟩; simp_all; done)
 · contradiction
 · exact O05 (fun s => X0i (fun s h => ⟨rfl, h⟩))
 · unfold K09; repeat' split
   all_goals first
    | (intro h; exact h.elim)
    | (intro h; simp_all; done)
 · exact O05 (fun s h => ⟨rfl, h⟩)
 · exact O05 (fun s h => ⟨rfl, h⟩)
end laws
section congr
variable {P : Program} {Shp : G02} {V : View} {rt : Nat} {o : Oper} {ev ev' : Operand → SV} {blk : Option (Option OB)} {k : SV → Option OB → Prop}
theorem B0b {α : Type} {p q : α → Bool} : ∀ {l : List α}, (∀ x ∈ l, p x = q x) → l.all p = l.all q
 | [], _ => rfl
 | x :: l, h => by simp [h x (by simp), B0b (l := l) (fun y hy => h y (by simp [hy]))]
theorem s0d {fl : Nat} {k : SV → Prop} (hev : ∀ x ∈ o.op.operands, ev x = ev' x) (h : gen P fl o ev k) : gen P fl o ev' k := by
 have h1 : o.op.operands.toList.all (fun x => (ev x).asVal.isSome) = o.op.operands.toList.all (fun x => (ev' x).asVal.isSome) :=
  B0b fun x hx => by rw [hev x (by simpa using hx)]
 cases hs : c0a o.op with
 | true => unfold gen at h; rw [hs] at h; exact h.elim
 | false =>
   have h2 : execOp (rho ev) o = execOp (rho ev') o :=
    execOp_congr o (by intro cs b e; rw [e] at hs; simp [c0a] at hs) (fun x hx => by simp [rho, hev x hx])
   unfold gen at h ⊢
   rw [← h1, ← h2]; exact h
theorem g0o (hev : ∀ x ∈ o.op.operands, ev x = ev' x) (h : F03 P Shp V rt o ev blk k) : F03 P Shp V rt o ev' blk k := by
 revert h; unfold F03
 split
 · rename_i x hop; rw [hev x (by simp [hop, Op.operands])]; exact id
 · rename_i x hop; rw [hev x (by simp [hop, Op.operands])]; exact id
 · rename_i c x y hop; rw [hev c (by simp [hop, Op.operands]), hev x (by simp [hop, Op.operands]), hev y (by simp [hop, Op.operands])]; exact id
 · rename_i x i hop; rw [hev x (by simp [hop, Op.operands])]; exact id
 · exact id
theorem w05 {o : Oper} {ev ev' : Operand → SV} (hev : ∀ x ∈ o.op.operands, ev x = ev' x) : d0a P o ev = d0a P o ev' := by
 unfold d0a
 split
 · rename_i t n parts hop
   have hp : ∀ p ∈ parts.toList, ev p.2 = ev' p.2 := fun p hp => hev p.2 (by simp [hop, Op.operands]; exact ⟨p.1, by simpa using hp⟩)
   have h1 : parts.toList.all (fun p => (ev p.2).asVal.isSome) = parts.toList.all (fun p => (ev' p.2).asVal.isSome) := B0b fun p h => by rw [hp p h]
   have h2 : (parts.toList.map fun p => (p.1, rho ev p.2)) = parts.toList.map fun p => (p.1, rho ev' p.2) := List.map_congr_left fun p h => by simp [rho, hp p h]
   rw [h1, h2]
 · rfl
theorem n0q (hev : ∀ x ∈ o.op.operands, ev x = ev' x) (h : L06 P Shp V rt o ev blk k) : L06 P Shp V rt o ev' blk k := by
 revert h; unfold L06
 split
 · exact id
 · rename_i t x hop; rw [hev x (by simp [hop, Op.operands])]; exact id
 · rename_i t n c hop; rw [hev n (by simp [hop, Op.operands]), hev c (by simp [hop, Op.operands])]; exact id
 · rename_i t n parts hop; rw [w05 hev]; exact id
 · exact id
theorem i0o (hev : ∀ x ∈ o.op.operands, ev x = ev' x) (h : B04 P Shp V rt o ev blk k) : B04 P Shp V rt o ev' blk k := by
 revert h; unfold B04
 split
 · rename_i t p ob hop; rw [hev p (by simp [hop, Op.operands])]; exact id
 · exact id
theorem o0q (hev : ∀ x ∈ o.op.operands, ev x = ev' x) (h : I05 P Shp V rt o ev blk k) : I05 P Shp V rt o ev' blk k := by
 revert h; unfold I05
 split
 · rename_i t p b hop; rw [hev p (by simp [hop, Op.operands])]; exact id
 · rename_i src dst x b hop; rw [hev x (by simp [hop, Op.operands])]; exact id
 · exact id
theorem e0l (hev : ∀ x ∈ o.op.operands, ev x = ev' x) (h : Q03 P Shp V rt o ev blk k) : Q03 P Shp V rt o ev' blk k := by
 revert h; unfold Q03
 split
 · rename_i t p x ob hop; rw [hev p (by simp [hop, Op.operands]), hev x (by simp [hop, Op.operands])]; exact id
 · exact id
theorem f0l (hev : ∀ x ∈ o.op.operands, ev x = ev' x) (h : Q02 P Shp V rt o ev blk k) : Q02 P Shp V rt o ev' blk k := by
 revert h; unfold Q02
 split
 · rename_i s p f b hop; rw [hev p (by simp [hop, Op.operands])]; exact id
 · rename_i t x i b hop; rw [hev x (by simp [hop, Op.operands]), hev i (by simp [hop, Op.operands])]; exact id
 · rename_i t x lo hi mx b hop
   rw [hev x (by simp [hop, Op.operands])]
   cases lo with
   | none => cases hi with
     | none => exact id
     | some y => simp only [hev y (by simp [hop, Op.operands])]; exact id
   | some z => cases hi with
     | none => simp only [hev z (by simp [hop, Op.operands])]; exact id
     | some y => simp only [hev y (by simp [hop, Op.operands]), hev z (by simp [hop, Op.operands])]; exact id
 · rename_i c b hop
   split
   · rename_i x t hcal hargs htys
     rw [hev x (by
      have : x ∈ c.args.toList := by rw [hargs]; simp
      simp only [hop, Op.operands, Call.operands]
      simp at this
      simp [this])]
     exact id
   · exact id
 · rename_i f first caps b hop
   split
   · rename_i p hf hc
     rw [hev p (by
      have : p ∈ caps.toList := by rw [hc]; simp
      simp at this
      simp [hop, Op.operands, this])]
     exact id
   · exact id
 · exact id
theorem P05 {ev ev' : Operand → SV} : ∀ {l : List Operand}, (∀ x ∈ l, ev x = ev' x) → J05 ev l = J05 ev' l
 | [], _ => rfl
 | x :: l, h => by simp [J05, h x (by simp), P05 (l := l) (fun y hy => h y (by simp [hy]))]
theorem j0o (hev : ∀ x ∈ o.op.operands, ev x = ev' x) (h : C04 P Shp V rt o ev blk k) : C04 P Shp V rt o ev' blk k := by
 revert h; unfold C04
 split
 · exact id
 · split
   · rename_i op t x y yt hop
     rw [hev x (by simp [hop, Op.operands]), hev y (by simp [hop, Op.operands])]; exact id
   · rename_i c hop
     have hc : ∀ x ∈ c.args.toList, ev x = ev' x := fun x hx => hev x (by
      simp only [hop, Op.operands, Call.operands]
      simp at hx
      simp [hx])
     split
     · rename_i x y hcal hargs
       rw [hargs] at hc
       rw [hc x (by simp), hc y (by simp)]; exact id
     · rename_i x y hcal hargs
       rw [hargs] at hc
       rw [hc x (by simp), hc y (by simp)]; exact id
     · rw [P05 hc]; exact id
     · exact id
   · rename_i t x ix hop
     rw [hev x (by simp [hop, Op.operands]), hev ix (by simp [hop, Op.operands])]; exact id
   · rename_i t x lo hi mx hop
     rw [hev x (by simp [hop, Op.operands]), hev mx (by simp [hop, Op.operands])]
     cases lo with
     | none => cases hi with
       | none => exact id
       | some y => simp only [hev y (by simp [hop, Op.operands])]; exact id
     | some z => cases hi with
       | none => simp only [hev z (by simp [hop, Op.operands])]; exact id
       | some y => simp only [hev y (by simp [hop, Op.operands]), hev z (by simp [hop, Op.operands])]; exact id
   · exact id
theorem k0o (hev : ∀ x ∈ o.op.operands, ev x = ev' x) (h : D04 P Shp V rt o ev blk k) : D04 P Shp V rt o ev' blk k := by
 revert h; unfold D04
 split
 · rename_i c ob hop
   have hc : ∀ x ∈ c.args.toList, ev x = ev' x := fun x hx => hev x (by
    simp only [hop, Op.operands, Call.operands]
    simp at hx
    simp [hx])
   split
   · rename_i x y t t2 hcal hargs htys
     rw [hargs] at hc
     rw [hc x (by simp), hc y (by simp)]; exact id
   · exact id
 · exact id
theorem g0l {an : An} (hev : ∀ x ∈ o.op.operands, ev x = ev' x) (h : d06 P Shp V an o ev blk k) : d06 P Shp V an o ev' blk k := by
 revert h; unfold d06
 split
 · exact g0o hev
 · exact n0q hev
 · exact i0o hev
 · exact o0q hev
 · exact e0l hev
 · exact f0l hev
 · exact j0o hev
 · exact k0o hev
 · split
   · exact s0d hev
   · exact id
 · unfold K09; split
   · rename_i t x b hop; rw [hev x (by simp [hop, Op.operands])]; exact id
   · rename_i c x y b hop; rw [hev c (by simp [hop, Op.operands]), hev x (by simp [hop, Op.operands]), hev y (by simp [hop, Op.operands])]; exact id
   · exact id
 · split
   · exact s0d hev
   · exact id
 · split
   · exact s0d hev
   · exact id
end congr
