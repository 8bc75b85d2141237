/- Part. -/
import Derived.Test.YtkibfmnkkiakoaaGreatPartA
namespace Go.Vc
open Go
structure Grow (b' b : Bk) (z : Cq) : Prop where
 ok' : b'.ok
 ok : b.ok
 re : b'.re.set.sub b.re.set
 im : b'.im.set.sub b.im.set
 has : b'.has z = true
theorem K0r {s t : Sk} (hs : s.ok) (ht : t.ok) (h : s.isIn t = true) : s.set.sub t.set := by
 unfold Sk.isIn at h; rw [Bool.and_eq_true, decide_eq_true_iff, decide_eq_true_iff] at h
 exact ⟨l07 ht.lo hs.lo h.1, l07 hs.hi ht.hi h.2⟩
theorem B0n {s t : Sk} (hs : s.ok) (ht : t.ok) (h : s.set.sub t.set) : s.isIn t = true :=
 x0r (x0m ht.lo hs.lo h.1) (x0m hs.hi ht.hi h.2)
theorem Grow.isIn {b' b : Bk} {z : Cq} (h : Grow b' b z) : b'.isIn b = true := by
 unfold Bk.isIn; rw [Bool.and_eq_true]; exact ⟨B0n h.ok'.re h.ok.re h.re, B0n h.ok'.im h.ok.im h.im⟩
theorem Grow.of {b' b : Bk} {z : Cq} (h' : b'.ok) (h : b.ok) (hi : b'.isIn b = true) (hz : b'.has z = true) : Grow b' b z := by
 unfold Bk.isIn at hi; rw [Bool.and_eq_true] at hi
 exact ⟨h', h, K0r h'.re h.re hi.1, K0r h'.im h.im hi.2, hz⟩
theorem Grow.has2 {b' b : Bk} {z : Cq} (h : Grow b' b z) : b.has z = true := by
 obtain ⟨h1, h2⟩ := o03.1 h.has
 exact o03.2 ⟨h.re.in h1, h.im.in h2⟩
theorem H0g {E F E' F' : Es} {z : Cq} (oE : E'.ok) (oF : F'.ok) (h1 : E'.sub E) (h2 : F'.sub F) (k1 : InE ⟨0, z.re⟩ E') (k2 : InE ⟨0, z.im⟩ F') : Grow ⟨E'.span, F'.span⟩ ⟨E.span, F.span⟩ z := by
 refine Grow.of ⟨W02 _, W02 _⟩ ⟨W02 _, W02 _⟩ ?_ (p0t oE oF k1 k2)
 unfold Bk.isIn; rw [Bool.and_eq_true]
 exact ⟨g0d oE (y02 rfl k1) h1, g0d oF (y02 rfl k2) h2⟩
theorem s0c {a : Eb} {E : Es} (h : InE a E) : Eb.Le E.lo E.hi := h.1.trans h.2
theorem Grow.neg {b' b : Bk} {z : Cq} (h : Grow b' b z) : Grow b'.neg b.neg (-z) := by
 refine ⟨Bk.neg_ok h.ok', Bk.neg_ok h.ok, ?_, ?_, has_neg h.has⟩
 · show b'.re.neg.set.sub b.re.neg.set; rw [X02, X02]; exact h.re.neg
 · show b'.im.neg.set.sub b.im.neg.set; rw [X02, X02]; exact h.im.neg
theorem P0v {s' s t' t : Sk} {x y : Rat} (h : s'.set.sub s.set) (k : t'.set.sub t.set) (hx : InE ⟨0, x⟩ s'.set) (hy : InE ⟨0, y⟩ t'.set) : (s'.set.add t'.set).sub (s.set.add t.set) :=
 Es.sub.add (m00 _) (m00 _) (m00 _) (m00 _) (y02 rfl hx) (y02 rfl (h.in hx)) (y02 rfl hy) (y02 rfl (k.in hy)) h k
theorem Grow.add {b' b c' c : Bk} {z w : Cq} (h : Grow b' b z) (k : Grow c' c w) : Grow (b'.add c') (b.add c) (z + w) := by
 obtain ⟨h1, h2⟩ := o03.1 h.has
 obtain ⟨k1, k2⟩ := o03.1 k.has
 exact H0g (G07 (m00 _) (m00 _)) (G07 (m00 _) (m00 _)) (P0v h.re k.re h1 k1) (P0v h.im k.im h2 k2) (InE.add (m00 _) (m00 _) h1 k1) (InE.add (m00 _) (m00 _) h2 k2)
theorem Grow.sub {b' b c' c : Bk} {z w : Cq} (h : Grow b' b z) (k : Grow c' c w) : Grow (b'.sub c') (b.sub c) (z - w) := by
 rw [Bk.sub_eq, Bk.sub_eq, I0r]; exact h.add k.neg
theorem Grow.mul {b' b c' c : Bk} {z w : Cq} (h : Grow b' b z) (k : Grow c' c w) : Grow (b'.mul c') (b.mul c) (z * w) := by
 obtain ⟨h1, h2⟩ := o03.1 h.has
 obtain ⟨k1, k2⟩ := o03.1 k.has
 have o := fun (s t : Sk) => C0r s.set t.set
 have S : ∀ {s' s t' t : Sk} {x y : Rat}, s'.set.sub s.set → t'.set.sub t.set → InE ⟨0, x⟩ s'.set → InE ⟨0, y⟩ t'.set → (s'.set.mul t'.set).sub (s.set.mul t.set) ∧ InE ⟨0, x * y⟩ (s'.set.mul t'.set) ∧ InE ⟨0, x * y⟩ (s.set.mul t.set) := by
  intro s' s t' t x y hs ht hx hy
  exact ⟨Es.sub.mul (m00 _) (m00 _) (m00 _) (m00 _) (s0c hx) (s0c hy) hs ht, l09 (m00 _) (m00 _) hx hy, l09 (m00 _) (m00 _) (hs.in hx) (ht.in hy)⟩
 obtain ⟨a1, a2, a3⟩ := S h.re k.re h1 k1
 obtain ⟨b1, b2, b3⟩ := S h.im k.im h2 k2
 obtain ⟨c1, c2, c3⟩ := S h.re k.im h1 k2
 obtain ⟨d1, d2, d3⟩ := S h.im k.re h2 k1
 have n2 := b2.neg; have n3 := b3.neg
 rw [N04] at n2 n3
 have e : (z * w).re = z.re * w.re + -(z.im * w.im) := by rw [g03]; grind
 refine H0g (G07 (o _ _) (H07 (o _ _))) (G07 (o _ _) (o _ _)) ?_ ?_ ?_ (InE.add (o _ _) (o _ _) c2 d2)
 · exact Es.sub.add (o _ _) (o _ _) (H07 (o _ _)) (H07 (o _ _)) (y02 rfl a2) (y02 rfl a3) (y02 rfl n2) (y02 rfl n3) a1 b1.neg
 · exact Es.sub.add (o _ _) (o _ _) (o _ _) (o _ _) (y02 rfl c2) (y02 rfl c3) (y02 rfl d2) (y02 rfl d3) c1 d1
 · rw [e]; exact InE.add (o _ _) (H07 (o _ _)) a2 n2
theorem Grow.clear {b' b : Bk} {z : Cq} (h : Grow b' b z) (hc : b.clear = true) : b'.clear = true := by
 unfold Bk.clear at *
 cases e : b'.has Cq.zero
 · rfl
 · have := (Grow.mk h.ok' h.ok h.re h.im e).has2
   rw [this] at hc; exact absurd hc (by decide)
theorem Grow.inv {b' b : Bk} {z : Cq} (h : Grow b' b z) (hc : b.clear = true) : Grow b'.inv b.inv z.inv := by
 have hc' := h.clear hc
 obtain ⟨h1, h2⟩ := o03.1 h.has
 have nz := S0b hc
 have g := Es.sub.share (m00 _) (m00 _) (m00 _) (m00 _) (s0c h1) (s0c h2) h.re h.im nz
 have k := Es.sub.share (m00 _) (m00 _) (m00 _) (m00 _) (s0c h2) (s0c h1) h.im h.re (fun q => nz ⟨q.2, q.1⟩)
 have v := o03.1 (G0m h.has hc')
 have nz' := S0b hc'
 have p1 := InE.share (m00 _) (m00 _) (.inl rfl) (.inl rfl) h1 h2 nz'
 have p2 := (InE.share (m00 _) (m00 _) (.inl rfl) (.inl rfl) h2 h1 (fun q => nz' ⟨q.2, q.1⟩)).neg
 rw [e04] at p1 p2
 rw [N04] at p2
 refine Grow.of (C0e _) (C0e _) ?_ (G0m h.has hc')
 unfold Bk.inv; rw [if_pos hc, if_pos hc']
 unfold Bk.isIn; rw [Bool.and_eq_true]
 exact ⟨g0d (T0a _ _) (y02 rfl p1) g, g0d (H07 (T0a _ _)) (y02 rfl p2) k.neg⟩
-- norms
def Q0v (b : Bk) : Es := b.re.set.square.add b.im.set.square
theorem Grow.norm {b' b : Bk} {z : Cq} (h : Grow b' b z) : (Q0v b').sub (Q0v b) := by
 obtain ⟨h1, h2⟩ := o03.1 h.has
 exact Es.sub.add y04 y04 y04 y04 (y02 rfl (h1.square (m00 _))) (y02 rfl ((h.re.in h1).square (m00 _))) (y02 rfl (h2.square (m00 _))) (y02 rfl ((h.im.in h2).square (m00 _)))
  (h.re.square (m00 _) (m00 _) (s0c h1)) (h.im.square (m00 _) (m00 _) (s0c h2))
theorem O0p {a b : Eb} (h0 : Eb.Le (Eb.fin 0) a) (ha : a.ok) (h : Eb.Le a b) (hb : b.inf = 0) : a.inf = 0 ∧ a.x * a.x ≤ b.x * b.x := by
 rw [N05 hb] at h
 obtain ⟨e, p, q⟩ := P0b ha h0 h
 exact ⟨by rw [e], N06 p q⟩
theorem C0n {k : Int} (hk : inK k) (h : 0 ≤ k) : Eb.Le (Eb.fin 0) (endE k) := by rw [← o06]; exact l07 E07 hk h
theorem P0p {k : Int} (hk : inK k) (h : k ≤ 0) : Eb.Le (Eb.fin 0) (endE k).neg := by rw [← a03]; exact C0n (a0e hk) (by omega)
theorem H0m {e f : Eb} {k : Nat} {x y p : Rat} (h : U00 e f false k) (p0 : 0 ≤ p) (hp : rtC x (x * x + y * y) p = 0) (he : Eb.Le e ⟨0, x⟩) (hf : f.inf = 0 ∧ f.x * f.x ≤ y * y) : Eb.Le (endE (k : Int)) ⟨0, p⟩ := by
 have ei : e.inf ≤ 0 := Int.not_lt.1 fun g => he (.inl g)
 unfold U00 at h
 rw [if_neg (by have := hf.1; omega)] at h
 by_cases d : e.inf < 0
 · rw [if_pos d] at h
   rw [h]; show Eb.Le (endE 0) _; rw [o06]; exact s02.2 p0
 · rw [if_neg d] at h
   obtain ⟨r, h1, h2⟩ := h
   rw [if_neg (fun g => by exact absurd g.1 (by decide))] at h2
   rw [h2, c0i h1.lt]
   refine s02.2 (Rat.not_lt.1 fun g => ?_)
   exact u0r p0 g hp (b0e (j03 r) (t05 (by omega) rfl he) hf.2 h1.le)
theorem I0m {e f : Eb} {k : Nat} {x y p : Rat} (h : U00 e f true k) (p0 : 0 ≤ p) (hp : rtC x (x * x + y * y) p = 0) (he : Eb.Le ⟨0, x⟩ e) (hf : f.inf = 0 → y * y ≤ f.x * f.x) : Eb.Le ⟨0, p⟩ (endE (k : Int)) := by
 have ei : 0 ≤ e.inf := Int.not_lt.1 fun g => he (.inl g)
 have top : Eb.Le ⟨0, p⟩ (endE (infR : Int)) := by rw [w0n]; exact f0i (by decide)
 unfold U00 at h
 by_cases c : 0 < e.inf ∨ f.inf ≠ 0
 · rw [if_pos c] at h; rw [h]; exact top
 · rw [if_neg c, if_neg (by omega)] at h
   obtain ⟨r, h1, h2⟩ := h
   have wp : rtP e.x (e.x * e.x + f.x * f.x) p := b0e p0 (t05 rfl (by omega) he) (hf (by omega)) (y0n.1 (by show rtC x (x * x + y * y) p ≤ 0; omega))
   by_cases d : rtC e.x (e.x * e.x + f.x * f.x) (fkq (r : Int)) = 0
   · rw [if_neg (fun g => g.2 d)] at h2
     rw [h2, c0i h1.lt]
     exact s02.2 (Rat.not_lt.1 fun g => u0r (j03 r) g d wp)
   · rw [if_pos ⟨rfl, d⟩] at h2
     rw [h2]
     rcases h1.next with g | g
     · rw [g]; exact top
     · by_cases i : r + 1 = infR
       · rw [i]; exact top
       · have := h1.lt
         rw [c0i (by omega)]
         exact s02.2 (Rat.not_lt.1 fun q => g (a0i _ _ _ _ (j03 _) (Rat.le_of_lt q) wp))
structure t08 (r z : Cq) : Prop where
 sq : r * r = z
 re : 0 ≤ r.re
 im : r.re = 0 → 0 ≤ r.im
theorem t08.re_root {r z : Cq} (h : t08 r z) : rtC z.re (z.re * z.re + z.im * z.im) r.re = 0 ∧ rtC (-z.re) (-z.re * -z.re + z.im * z.im) (if r.im < 0 then -r.im else r.im) = 0 := by
 have a : z.re = r.re * r.re - r.im * r.im := by rw [← h.sq, g03]
 have b : z.im = r.re * r.im + r.im * r.re := by rw [← h.sq, E03]
 have m1 := s00 r.re; have m2 := s00 r.im
 have n : z.re * z.re + z.im * z.im = (r.re * r.re + r.im * r.im) * (r.re * r.re + r.im * r.im) := by rw [a, b]; grind
 have s : (if r.im < 0 then -r.im else r.im) * (if r.im < 0 then -r.im else r.im) = r.im * r.im := by split <;> grind
 have d1 : rtD z.re r.re = r.re * r.re + r.im * r.im := by unfold rtD; rw [a]; grind
 have d2 : rtD (-z.re) (if r.im < 0 then -r.im else r.im) = r.re * r.re + r.im * r.im := by unfold rtD; rw [s, a]; grind
 refine ⟨P0a.2 ⟨by rw [d1]; grind, by rw [d1, n]⟩, P0a.2 ⟨by rw [d2]; grind, ?_⟩⟩
 have e : -z.re * -z.re + z.im * z.im = z.re * z.re + z.im * z.im := by grind
 rw [d2, e, n]
theorem t0t {b t : Bk} {z r : Cq} (hb : b.ok) (q : b0i b t) (h : b.has z = true) (p : t08 r z) : t.has r = true := by
 obtain ⟨h1, h2⟩ := o03.1 h
 obtain ⟨c1, c2⟩ := p.re_root
 have tok := q.ok
 have b' : z.im = r.re * r.im + r.im * r.re := by rw [← p.sq, E03]
 have ab := h2.abs (.inl rfl) (m00 b.im)
 have n := i0i (m00 b.im); have s := i0d (m00 b.im)
 have ae : ((⟨0, z.im⟩ : Eb).abs) = ⟨0, if z.im < 0 then -z.im else z.im⟩ := w0r rfl
 have sq : (if z.im < 0 then -z.im else z.im) * (if z.im < 0 then -z.im else z.im) = z.im * z.im := by split <;> grind
 have f1 : b.im.set.size.lo.inf = 0 ∧ b.im.set.size.lo.x * b.im.set.size.lo.x ≤ z.im * z.im := by
  have := O0p n.1 s.lo ab.1 (by rw [ae])
  rw [ae] at this; rw [← sq]; exact this
 have f2 : b.im.set.size.hi.inf = 0 → z.im * z.im ≤ b.im.set.size.hi.x * b.im.set.size.hi.x := by
  intro g
  have := O0p (A0k (.inl rfl)) (n0g (.inl rfl)) ab.2 g
  rw [ae] at this; rw [← sq]; exact this.2
 obtain ⟨k1, a1, r1⟩ := q.r1
 obtain ⟨k2, a2, r2⟩ := q.r2
 obtain ⟨k3, b3, c3⟩ := q.i1
 obtain ⟨k4, b4, c4⟩ := q.i2
 have neg1 : Eb.Le ⟨0, -z.re⟩ (endE b.re.lo).neg := by rw [← N04]; exact d04.2 h1.1
 have neg2 : Eb.Le (endE b.re.hi).neg ⟨0, -z.re⟩ := by rw [← N04]; exact d04.2 h1.2
 -- the sign of the root's imaginary part
 have sg1 : z.im < 0 → r.im < 0 := by
  intro g
  refine Rat.not_le.1 fun c => ?_
  have := Rat.mul_nonneg p.re c; grind
 have sg2 : 0 < z.im → 0 < r.im := by
  intro g
  refine Rat.not_le.1 fun c => ?_
  have := Rat.mul_nonneg p.re (show 0 ≤ -r.im by grind); grind
 have sg3 : 0 ≤ z.im → 0 ≤ r.im := by
  intro g
  by_cases c : z.im = 0
  · by_cases e : r.re = 0
    · exact p.im e
    · have m : r.re * r.im = 0 := by grind
      rcases Rat.mul_eq_zero.1 m with g | g
      · exact absurd g e
      · grind
  · exact Rat.le_of_lt (sg2 (by grind))
 have nat0 : ∀ k : Nat, k ≤ infR → Eb.Le (Eb.fin 0) (endE (k : Int)) := fun k hk => C0n (m03 hk) (by omega)
 have nneg : ∀ k : Nat, k ≤ infR → Eb.Le (endE (-(k : Int))) (Eb.fin 0) := fun k hk => by
  rw [a03, ← d04, Eb.neg_neg]
  have e : (Eb.fin 0).neg = Eb.fin 0 := Eb.zero_neg
  rw [e]; exact nat0 k hk
 refine o03.2 ⟨⟨?_, ?_⟩, ⟨?_, ?_⟩⟩
 · show Eb.Le (endE t.re.lo) _; rw [a1]; exact H0m r1 p.re c1 h1.1 f1
 · show Eb.Le _ (endE t.re.hi); rw [a2]; exact I0m r2 p.re c1 h1.2 f2
 · show Eb.Le (endE t.im.lo) _
   by_cases c : b.im.lo < 0
   · obtain ⟨e, g⟩ := b3 c
     rw [e]
     by_cases d : r.im < 0
     · rw [if_pos d] at c2
       have zn : ¬ 0 ≤ z.im := fun g => by have := sg3 g; grind
       have := I0m g (by grind) c2 neg1 (fun i => by
        have hh : Eb.Le ⟨0, -z.im⟩ (endE b.im.lo).neg := by rw [← N04]; exact d04.2 h2.1
        have := O0p (a := ⟨0, -z.im⟩) (s02.2 (by grind)) (.inl rfl) hh i
        have := this.2
        have e2 : -z.im * -z.im = z.im * z.im := by grind
        rw [← e2]; exact this)
       rw [a03, ← d04, Eb.neg_neg, N04]; exact this
     · exact (nneg k3 g.le).trans (s02.2 (Rat.not_lt.1 d))
   · obtain ⟨e, g⟩ := c3 c
     rw [e]
     have z0 : 0 ≤ z.im := s02.1 ((C0n hb.im.lo (by omega)).trans h2.1)
     have d := sg3 z0
     rw [if_neg (by grind)] at c2
     exact H0m g d c2 neg2 (O0p (C0n hb.im.lo (by omega)) (n06 _) h2.1 rfl)
 · show Eb.Le _ (endE t.im.hi)
   by_cases c : b.im.hi < 0
   · obtain ⟨e, g⟩ := b4 c
     rw [e]
     have hl : Eb.LT (endE b.im.hi) (Eb.fin 0) := by rw [← o06]; exact b05 hb.im.hi E07 c
     have z0 : z.im < 0 := by
      refine Rat.not_le.1 fun q => ?_
      exact ((s02.2 q : Eb.Le (Eb.fin 0) ⟨0, z.im⟩).trans h2.2) hl
     have d := sg1 z0
     rw [if_pos d] at c2
     have hh : Eb.Le (endE b.im.hi).neg ⟨0, -z.im⟩ := by rw [← N04]; exact d04.2 h2.2
     have f := O0p (P0p hb.im.hi (by omega)) (Eb.neg_ok (n06 _)) hh rfl
     have e2 : -z.im * -z.im = z.im * z.im := by grind
     rw [show (⟨0, -z.im⟩ : Eb).x = -z.im from rfl, e2] at f
     have := H0m g (by grind) c2 neg2 f
     rw [a03, ← d04, Eb.neg_neg, N04]; exact this
   · obtain ⟨e, g⟩ := c4 c
     rw [e]
     by_cases d : r.im < 0
     · exact (s02.2 (Rat.le_of_lt d) : Eb.Le ⟨0, r.im⟩ ⟨0, 0⟩).trans (nat0 k4 g.le)
     · rw [if_neg d] at c2
       have zn : 0 ≤ z.im := Rat.not_lt.1 fun q => d (sg1 q)
       exact I0m g (Rat.not_lt.1 d) c2 neg1 (fun i => (O0p (a := ⟨0, z.im⟩) (s02.2 zn) (.inl rfl) h2.2 i).2)
