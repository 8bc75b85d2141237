/- Part. -/
import Derived.Test.YtkibfmnkkiakoaaGreatVcD
namespace Go.Vc
open Go Go.RowKit
section laws
variable {P : Program} {Shp : X02} {V : View} {rt : Nat} {o : Oper} {ev : Operand → SV} {blk : Option (Option OB)} {k k' : SV → Option OB → Prop}
theorem J0q {fl : Nat} {k : SV → Prop} (h : gen P fl o ev k) : ∃ s, k s ∧ gen P fl o ev (fun s' => s' = s) := by
 revert h; unfold gen
 split
 · split
   · intro h; exact ⟨_, h, rfl⟩
   · intro h; exact h.elim
 · rintro ⟨v, hv, h⟩; exact ⟨_, h, v, hv, rfl⟩
 · intro h; exact h.elim
theorem c06 {fl : Nat} {k k' : SV → Prop} (hk : ∀ s, k s → k' s) (h : gen P fl o ev k) : gen P fl o ev k' := by
 revert h; unfold gen
 split
 · split
   · intro h; exact hk _ h
   · intro h; exact h.elim
 · rintro ⟨v, hv, h⟩; exact ⟨v, hv, hk _ h⟩
 · intro h; exact h.elim
theorem X0u {b : Option OB} {s : SV} (h : litK b k s) : ∃ s' ob, k s' ob ∧ litK b (fun s2 ob2 => s2 = s' ∧ ob2 = ob) s := by
 unfold litK at h
 split at h
 · exact ⟨_, _, h, rfl, rfl⟩
 · exact ⟨_, _, h, rfl, rfl⟩
 · exact h.elim
theorem C0j {b : Option OB} {k k' : SV → Option OB → Prop} (hk : ∀ s, k s b → k' s b) {s : SV} (h : litK b k s) : litK b k' s := by
 unfold litK at h
 split at h
 · exact hk _ h
 · exact hk _ h
 · exact h.elim
theorem Y0u (h : W03 P Shp V rt o ev blk k) : ∃ s ob, k s ob ∧ W03 P Shp V rt o ev blk (fun s' ob' => s' = s ∧ ob' = ob) := by
 revert h; unfold W03
 repeat' split
 all_goals first
  | (intro h; exact h.elim)
  | (intro h; exact ⟨_, _, h, rfl, rfl⟩)
theorem U0v (h : d07 P Shp V rt o ev blk k) : ∃ s ob, k s ob ∧ d07 P Shp V rt o ev blk (fun s' ob' => s' = s ∧ ob' = ob) := by
 revert h; unfold d07
 repeat' split
 all_goals first
  | (intro h; exact h.elim)
  | (intro h; exact h.2.elim)
  | (intro h; exact ⟨_, _, h, rfl, rfl⟩)
  | (intro h; exact ⟨_, _, h.2, h.1, rfl, rfl⟩)
theorem Z0u (h : K04 P Shp V rt o ev blk k) : ∃ s ob, k s ob ∧ K04 P Shp V rt o ev blk (fun s' ob' => s' = s ∧ ob' = ob) := by
 revert h; unfold K04
 repeat' split
 all_goals first
  | (intro h; exact h.elim)
  | (intro h; exact ⟨_, _, h, rfl, rfl⟩)
  | (rintro ⟨x, hx, h⟩; exact ⟨_, _, h, x, hx, rfl, rfl⟩)
  | (rintro ⟨x, hx, h⟩
     split at h
     · rename_i hv
       split at h
       · rename_i hb
         exact ⟨_, _, h, x, hx, by rw [hv]; simp [hb]⟩
       · exact h.elim
     · exact h.elim)
theorem W0v (h : U05 P Shp V rt o ev blk k) : ∃ s ob, k s ob ∧ U05 P Shp V rt o ev blk (fun s' ob' => s' = s ∧ ob' = ob) := by
 revert h; unfold U05
 repeat' split
 all_goals first
  | (intro h; exact h.elim)
  | (rintro ⟨x, hx, h⟩; exact ⟨_, _, h, x, hx, rfl, rfl⟩)
  | (rintro ⟨x, hx, hs, h1, h⟩; exact ⟨_, _, h, x, hx, hs, h1, rfl, rfl⟩)
  | (rintro ⟨x, hx, hs, h⟩
     split at h
     · rename_i hv
       split at h
       · rename_i hb
         exact ⟨_, _, h, x, hx, hs, by rw [hv]; simp [hb]⟩
       · exact h.elim
     · exact h.elim)
theorem i0t (h : f04 P Shp V rt o ev blk k) : ∃ s ob, k s ob ∧ f04 P Shp V rt o ev blk (fun s' ob' => s' = s ∧ ob' = ob) := by
 revert h; unfold f04
 repeat' split
 all_goals first
  | (intro h; exact h.elim)
  | (intro h; exact ⟨_, _, h, rfl, rfl⟩)
  | (intro h; exact ⟨_, _, h.2, h.1, rfl, rfl⟩)
theorem j0t (h : j03 P Shp V rt o ev blk k) : ∃ s ob, k s ob ∧ j03 P Shp V rt o ev blk (fun s' ob' => s' = s ∧ ob' = ob) := by
 revert h; unfold j03
 repeat' split
 all_goals first
  | (intro h; exact h.elim)
  | (intro h; exact ⟨_, _, h, rfl, rfl⟩)
  | (intro h; exact ⟨_, _, h.2, h.1, rfl, rfl⟩)
theorem a0v (h : L04 P Shp V rt o ev blk k) : ∃ s ob, k s ob ∧ L04 P Shp V rt o ev blk (fun s' ob' => s' = s ∧ ob' = ob) := by
 revert h; unfold L04
 repeat' split
 all_goals first
  | (intro h; exact h.elim)
  | (intro h; exact ⟨_, _, h.2, h.1, rfl, rfl⟩)
  | (rintro ⟨x, hx, h⟩; exact ⟨_, _, h, x, hx, rfl, rfl⟩)
theorem b0v (h : M04 P Shp V rt o ev blk k) : ∃ s ob, k s ob ∧ M04 P Shp V rt o ev blk (fun s' ob' => s' = s ∧ ob' = ob) := by
 revert h; unfold M04
 repeat' split
 all_goals first
  | (intro h; exact h.elim)
  | (rintro ⟨vs, h1, h2, h3, h4, h5, h⟩; exact ⟨_, _, h, vs, h1, h2, h3, h4, h5, rfl, rfl⟩)
theorem D0n {an : An} (h : t06 P Shp V an o ev blk k) : ∃ s ob, k s ob ∧ t06 P Shp V an o ev blk (fun s' ob' => s' = s ∧ ob' = ob) := by
 revert h; unfold t06
 split
 · exact Y0u
 · exact U0v
 · exact Z0u
 · exact W0v
 · exact i0t
 · exact j0t
 · exact a0v
 · exact b0v
 · split
   · intro h; obtain ⟨s, hk, hg⟩ := J0q h
     obtain ⟨s', ob, hk', hl⟩ := X0u hk
     exact ⟨s', ob, hk', c06 (fun s2 e => by rw [e]; exact hl) hg⟩
   · intro h; exact h.elim
 · unfold y0a
   repeat' split
   all_goals first
    | (intro h; exact h.elim)
    | (intro h; exact ⟨_, _, h, rfl, rfl⟩)
 · split
   · intro h; obtain ⟨s, hk, hg⟩ := J0q h; exact ⟨s, _, hk, c06 (fun s' e => ⟨e, rfl⟩) hg⟩
   · intro h; exact h.elim
 · split
   · intro h; obtain ⟨s, hk, hg⟩ := J0q h; exact ⟨s, _, hk, c06 (fun s' e => ⟨e, rfl⟩) hg⟩
   · intro h; exact h.elim
theorem b0c {an : An} (hk : ∀ s ob, k s ob → k' s ob) (h : t06 P Shp V an o ev blk k) : t06 P Shp V an o ev blk k' := by
 revert h; unfold t06
 split
 · unfold W03; repeat' split
   all_goals first
    | (intro h; exact h.elim)
    | (intro h; exact hk _ _ h)
 · unfold d07; repeat' split
   all_goals first
    | (intro h; exact h.elim)
    | (intro h; exact h.2.elim)
    | (intro h; exact hk _ _ h)
    | (intro h; exact ⟨h.1, hk _ _ h.2⟩)
 · unfold K04; repeat' split
   all_goals first
    | (intro h; exact h.elim)
    | (intro h; exact hk _ _ h)
    | (rintro ⟨x, hx, h⟩; exact ⟨x, hx, hk _ _ h⟩)
    | (rintro ⟨x, hx, h⟩
       refine ⟨x, hx, ?_⟩
       revert h
       split
       · split
         · exact hk _ _
         · exact id
       · exact id)
 · unfold U05; repeat' split
   all_goals first
    | (intro h; exact h.elim)
    | (rintro ⟨x, hx, h⟩; exact ⟨x, hx, hk _ _ h⟩)
    | (rintro ⟨x, hx, hs, h1, h⟩; exact ⟨x, hx, hs, h1, hk _ _ h⟩)
    | (rintro ⟨x, hx, hs, h⟩
       refine ⟨x, hx, hs, ?_⟩
       revert h
       split
       · split
         · exact hk _ _
         · exact id
       · exact id)
 · unfold f04; repeat' split
   all_goals first
    | (intro h; exact h.elim)
    | (intro h; exact hk _ _ h)
    | (intro h; exact ⟨h.1, hk _ _ h.2⟩)
 · unfold j03; repeat' split
   all_goals first
    | (intro h; exact h.elim)
    | (intro h; exact hk _ _ h)
    | (intro h; exact ⟨h.1, hk _ _ h.2⟩)
 · unfold L04; repeat' split
   all_goals first
    | (intro h; exact h.elim)
    | (intro h; exact ⟨h.1, hk _ _ h.2⟩)
    | (rintro ⟨x, hx, h⟩; exact ⟨x, hx, hk _ _ h⟩)
 · unfold M04; repeat' split
   all_goals first
    | (intro h; exact h.elim)
    | (rintro ⟨vs, h1, h2, h3, h4, h5, h⟩; exact ⟨vs, h1, h2, h3, h4, h5, hk _ _ h⟩)
 · split
   · exact c06 (fun s => C0j (fun s => hk s _))
   · exact id
 · unfold y0a; repeat' split
   all_goals first
    | (intro h; exact h.elim)
    | (intro h; exact hk _ _ h)
 · split
   · exact c06 (fun s => hk s _)
   · exact id
 · split
   · exact c06 (fun s => hk s _)
   · exact id
theorem P0o {an : An} {V' : View} (hV : V.le V') (h : t06 P Shp V an o ev blk k) : t06 P Shp V' an o ev blk k := by
 revert h; unfold t06
 split
 · exact id
 · exact id
 · exact id
 · unfold U05; repeat' split
   all_goals first
    | exact id
    | (rintro ⟨x, hx, h⟩; exact ⟨x, m02 hV hx, h⟩)
    | (rintro ⟨x, hx, hs, h⟩; exact ⟨x, C04 hV hx, hs, h⟩)
 · exact id
 · exact id
 · exact id
 · unfold M04; repeat' split
   all_goals first
    | exact id
    | (rintro ⟨vs, h1, h2, h3, h4, h5, h⟩; exact ⟨vs, C04 hV h1, h2, h3, h4, h5, h⟩)
 · split <;> exact id
 · exact id
 · split <;> exact id
 · split <;> exact id
theorem Q0o {an : An} {b : Option OB} (h3 : an.fl ≠ 3) (h6 : an.fl ≠ 6) (h16 : an.fl ≠ 16) (h : t06 P Shp V an o ev (some b) k) : t06 P Shp V an o ev (some b) (fun s ob => ob = b ∧ k s ob) := by
 revert h; unfold t06
 split
 · unfold W03; repeat' split
   all_goals first
    | (intro h; exact h.elim)
    | (intro h; simp_all; done)
 · contradiction
 · unfold K04; repeat' split
   all_goals first
    | (intro h; exact h.elim)
    | (intro h; simp_all; done)
    | (rintro ⟨x, hx, h⟩; refine ⟨x, hx, ?_⟩; simp_all; done)
    | (rintro ⟨x, hx, h⟩
       refine ⟨x, hx, ?_⟩
       revert h
       split
       · split
         · intro h; simp_all
         · exact id
       · exact id)
 · unfold U05; repeat' split
   all_goals first
    | (intro h; exact h.elim)
    | (rintro ⟨x, hx, h⟩; refine ⟨x, hx, ?_⟩; simp_all; done)
    | (rintro ⟨x, hx, hs, h1, h⟩; refine ⟨x, hx, hs, h1, ?_⟩; simp_all; done)
    | (rintro ⟨x, hx, hs, h⟩
       refine ⟨x, hx, hs, ?_⟩
       revert h
       split
       · split
         · intro h; simp_all
         · exact id
       · exact id)
 · contradiction
 · unfold j03; repeat' split
   all_goals first
    | (intro h; exact h.elim)
    | (intro h; simp_all; done)
 · unfold L04; repeat' split
   all_goals first
    | (intro h; exact h.elim)
    | (intro h; simp_all; done)
    | (rintro ⟨x, hx, h⟩; refine ⟨x, hx, ?_⟩; simp_all; done)
 · contradiction
 · exact c06 (fun s => C0j (fun s h => ⟨rfl, h⟩))
 · unfold y0a; repeat' split
   all_goals first
    | (intro h; exact h.elim)
    | (intro h; simp_all; done)
 · exact c06 (fun s h => ⟨rfl, h⟩)
 · exact c06 (fun s h => ⟨rfl, h⟩)
end laws
section congr
variable {P : Program} {Shp : X02} {V : View} {rt : Nat} {o : Oper} {ev ev' : Operand → SV} {blk : Option (Option OB)} {k : SV → Option OB → Prop}
theorem c0c {α : Type} {p q : α → Bool} : ∀ {l : List α}, (∀ x ∈ l, p x = q x) → l.all p = l.all q
 | [], _ => rfl
 | x :: l, h => by simp [h x (by simp), c0c (l := l) (fun y hy => h y (by simp [hy]))]
theorem W0d {fl : Nat} {k : SV → Prop} (hev : ∀ x ∈ o.op.operands, ev x = ev' x) (h : gen P fl o ev k) : gen P fl o ev' k := by
 have h1 : o.op.operands.toList.all (fun x => (ev x).asVal.isSome) = o.op.operands.toList.all (fun x => (ev' x).asVal.isSome) :=
  c0c fun x hx => by rw [hev x (by simpa using hx)]
 cases hs : Q0a o.op with
 | true => unfold gen at h; rw [hs] at h; exact h.elim
 | false =>
   have h2 : execOp (rho ev) o = execOp (rho ev') o :=
    execOp_congr o (by intro cs b e; rw [e] at hs; simp [Q0a] at hs) (fun x hx => by simp [rho, hev x hx])
   unfold gen at h ⊢
   rw [← h1, ← h2]; exact h
theorem S0o (hev : ∀ x ∈ o.op.operands, ev x = ev' x) (h : W03 P Shp V rt o ev blk k) : W03 P Shp V rt o ev' blk k := by
 revert h; unfold W03
 split
 · rename_i x hop; rw [hev x (by simp [hop, Op.operands])]; exact id
 · rename_i x hop; rw [hev x (by simp [hop, Op.operands])]; exact id
 · rename_i c x y hop; rw [hev c (by simp [hop, Op.operands]), hev x (by simp [hop, Op.operands]), hev y (by simp [hop, Op.operands])]; exact id
 · rename_i x i hop; rw [hev x (by simp [hop, Op.operands])]; exact id
 · exact id
theorem C05 {o : Oper} {ev ev' : Operand → SV} (hev : ∀ x ∈ o.op.operands, ev x = ev' x) : S0a P o ev = S0a P o ev' := by
 unfold S0a
 split
 · rename_i t n parts hop
   have hp : ∀ p ∈ parts.toList, ev p.2 = ev' p.2 := fun p hp => hev p.2 (by simp [hop, Op.operands]; exact ⟨p.1, by simpa using hp⟩)
   have h1 : parts.toList.all (fun p => (ev p.2).asVal.isSome) = parts.toList.all (fun p => (ev' p.2).asVal.isSome) := c0c fun p h => by rw [hp p h]
   have h2 : (parts.toList.map fun p => (p.1, rho ev p.2)) = parts.toList.map fun p => (p.1, rho ev' p.2) := List.map_congr_left fun p h => by simp [rho, hp p h]
   rw [h1, h2]
 · rfl
theorem K0q (hev : ∀ x ∈ o.op.operands, ev x = ev' x) (h : d07 P Shp V rt o ev blk k) : d07 P Shp V rt o ev' blk k := by
 revert h; unfold d07
 split
 · exact id
 · rename_i t x hop; rw [hev x (by simp [hop, Op.operands])]; exact id
 · rename_i t n c hop; rw [hev n (by simp [hop, Op.operands]), hev c (by simp [hop, Op.operands])]; exact id
 · rename_i t n parts hop; rw [C05 hev]; exact id
 · exact id
theorem T0o (hev : ∀ x ∈ o.op.operands, ev x = ev' x) (h : K04 P Shp V rt o ev blk k) : K04 P Shp V rt o ev' blk k := by
 revert h; unfold K04
 split
 · rename_i t p ob hop; rw [hev p (by simp [hop, Op.operands])]; exact id
 · exact id
theorem L0q (hev : ∀ x ∈ o.op.operands, ev x = ev' x) (h : U05 P Shp V rt o ev blk k) : U05 P Shp V rt o ev' blk k := by
 revert h; unfold U05
 split
 · rename_i t p b hop; rw [hev p (by simp [hop, Op.operands])]; exact id
 · rename_i src dst x b hop; rw [hev x (by simp [hop, Op.operands])]; exact id
 · exact id
theorem N0l (hev : ∀ x ∈ o.op.operands, ev x = ev' x) (h : f04 P Shp V rt o ev blk k) : f04 P Shp V rt o ev' blk k := by
 revert h; unfold f04
 split
 · rename_i t p x ob hop; rw [hev p (by simp [hop, Op.operands]), hev x (by simp [hop, Op.operands])]; exact id
 · exact id
theorem O0l (hev : ∀ x ∈ o.op.operands, ev x = ev' x) (h : j03 P Shp V rt o ev blk k) : j03 P Shp V rt o ev' blk k := by
 revert h; unfold j03
 split
 · rename_i s p f b hop; rw [hev p (by simp [hop, Op.operands])]; exact id
 · rename_i t x i b hop; rw [hev x (by simp [hop, Op.operands]), hev i (by simp [hop, Op.operands])]; exact id
 · rename_i t x lo hi mx b hop
   rw [hev x (by simp [hop, Op.operands])]
   cases lo with
   | none => cases hi with
     | none => exact id
     | some y => simp only [hev y (by simp [hop, Op.operands])]; exact id
   | some z => cases hi with
     | none => simp only [hev z (by simp [hop, Op.operands])]; exact id
     | some y => simp only [hev y (by simp [hop, Op.operands]), hev z (by simp [hop, Op.operands])]; exact id
 · rename_i c b hop
   split
   · rename_i x t hcal hargs htys
     rw [hev x (by
      have : x ∈ c.args.toList := by rw [hargs]; simp
      simp only [hop, Op.operands, Call.operands]
      simp at this
      simp [this])]
     exact id
   · exact id
 · rename_i f first caps b hop
   split
   · rename_i p hf hc
     rw [hev p (by
      have : p ∈ caps.toList := by rw [hc]; simp
      simp at this
      simp [hop, Op.operands, this])]
     exact id
   · exact id
 · exact id
theorem d06 {ev ev' : Operand → SV} : ∀ {l : List Operand}, (∀ x ∈ l, ev x = ev' x) → W05 ev l = W05 ev' l
 | [], _ => rfl
 | x :: l, h => by simp [W05, h x (by simp), d06 (l := l) (fun y hy => h y (by simp [hy]))]
theorem U0o (hev : ∀ x ∈ o.op.operands, ev x = ev' x) (h : L04 P Shp V rt o ev blk k) : L04 P Shp V rt o ev' blk k := by
 revert h; unfold L04
 split
 · exact id
 · split
   · rename_i op t x y yt hop
     rw [hev x (by simp [hop, Op.operands]), hev y (by simp [hop, Op.operands])]; exact id
   · rename_i c hop
     have hc : ∀ x ∈ c.args.toList, ev x = ev' x := fun x hx => hev x (by
      simp only [hop, Op.operands, Call.operands]
      simp at hx
      simp [hx])
     split
     · rename_i x y hcal hargs
       rw [hargs] at hc
       rw [hc x (by simp), hc y (by simp)]; exact id
     · rename_i x y hcal hargs
       rw [hargs] at hc
       rw [hc x (by simp), hc y (by simp)]; exact id
     · rw [d06 hc]; exact id
     · exact id
   · rename_i t x ix hop
     rw [hev x (by simp [hop, Op.operands]), hev ix (by simp [hop, Op.operands])]; exact id
   · rename_i t x lo hi mx hop
     rw [hev x (by simp [hop, Op.operands]), hev mx (by simp [hop, Op.operands])]
     cases lo with
     | none => cases hi with
       | none => exact id
       | some y => simp only [hev y (by simp [hop, Op.operands])]; exact id
     | some z => cases hi with
       | none => simp only [hev z (by simp [hop, Op.operands])]; exact id
       | some y => simp only [hev y (by simp [hop, Op.operands]), hev z (by simp [hop, Op.operands])]; exact id
   · exact id
theorem W0o (hev : ∀ x ∈ o.op.operands, ev x = ev' x) (h : M04 P Shp V rt o ev blk k) : M04 P Shp V rt o ev' blk k := by
 revert h; unfold M04
 split
 · rename_i c ob hop
   have hc : ∀ x ∈ c.args.toList, ev x = ev' x := fun x hx => hev x (by
    simp only [hop, Op.operands, Call.operands]
    simp at hx
    simp [hx])
   split
   · rename_i x y t t2 hcal hargs htys
     rw [hargs] at hc
     rw [hc x (by simp), hc y (by simp)]; exact id
   · exact id
 · exact id
theorem P0l {an : An} (hev : ∀ x ∈ o.op.operands, ev x = ev' x) (h : t06 P Shp V an o ev blk k) : t06 P Shp V an o ev' blk k := by
 revert h; unfold t06
 split
 · exact S0o hev
 · exact K0q hev
 · exact T0o hev
 · exact L0q hev
 · exact N0l hev
 · exact O0l hev
 · exact U0o hev
 · exact W0o hev
 · split
   · exact W0d hev
   · exact id
 · unfold y0a; split
   · rename_i t x b hop; rw [hev x (by simp [hop, Op.operands])]; exact id
   · rename_i c x y b hop; rw [hev c (by simp [hop, Op.operands]), hev x (by simp [hop, Op.operands]), hev y (by simp [hop, Op.operands])]; exact id
   · exact id
 · split
   · exact W0d hev
   · exact id
 · split
   · exact W0d hev
   · exact id
end congr
