/- Part. -/
import Derived.Test.YtefkpimcffofaaaGreatVcE
namespace Go.Vc
open Go Go.RowKit
def wrA (an : An) : Bool := an.fl == 3 || an.fl == 6 || an.fl == 16 || an.fl == 23
def clsA (an : An) : Nat := match an.fl with | 10 => 2 | 11 => 1 | 13 => 5 | 14 => 3 | 15 => 4 | 17 => 4 | 18 => 3 | 19 => 3 | 21 => 3 | 24 => 6 | 25 => 6 | _ => 0
theorem B0r {sp : Bool} {s : SV} {k : SV → Prop} (h : fin sp s k) : ∃ s', k s' ∧ fin sp s (fun t => t = s') := by
 revert h; unfold fin
 split
 · intro h; exact ⟨_, h, rfl⟩
 · split
   · intro h; exact ⟨_, h, rfl⟩
   · rename_i b
     intro h
     cases b with
     | true => exact ⟨_, h.1 rfl, ⟨fun _ => rfl, by simp⟩⟩
     | false => exact ⟨_, h.2 rfl, ⟨by simp, fun _ => rfl⟩⟩
   · intro h; exact h.elim
theorem p08 {sp : Bool} {s : SV} {k k' : SV → Prop} (hk : ∀ s, k s → k' s) (h : fin sp s k) : fin sp s k' := by
 revert h; unfold fin
 split
 · exact hk _
 · split
   · exact hk _
   · intro h; exact ⟨fun e => hk _ (h.1 e), fun e => hk _ (h.2 e)⟩
   · exact id
def EA (P : Program) (Shp : I03) (an : An) (o : Oper) (g : Option Bool) (ev : Operand → SV) (blk : Option (Option OB)) (V : View) (s : SV) (ob : Option OB) : Prop :=
 match g with
 | some true => t07 P Shp V an o ev blk fun s0 ob0 => fin an.sp s0 (fun s1 => s1 = s) ∧ ob0 = ob
 | some false => s = .val undef ∧ (blk = some ob ∨ blk = none)
 | none => False
theorem U07 {σ : St} {rt : Nat} {b : Option OB} (h : σ.own[rt]? = none) : σ.setOwn rt b = σ := by
 unfold St.setOwn
 congr 1
 have : σ.own.length ≤ rt := by
  rcases Nat.lt_or_ge rt σ.own.length with h' | h'
  · rw [List.getElem?_eq_getElem h'] at h; simp at h
  · exact h'
 exact List.set_eq_of_length_le this
theorem E0m {P : Program} {Shp an o σ V} {K : St → View → Prop} (hcl : clsA an = 0) :
 actT P Shp an o σ V K = t07 P Shp V an o σ.ev σ.own[an.rt]? fun s ob => fin an.sp s fun s => K ((σ.setOwn an.rt ob).put o.dst s) V := by
 unfold actT
 split
 all_goals first
  | rfl
  | (rename_i h; simp [clsA, h] at hcl; done)
theorem w0j {P : Program} {Shp ops an o σ V} {K : St → View → Prop} (hcl : clsA an = 0) (h : Z03 P Shp ops an o σ V K) :
 ∃ s ob, EA P Shp an o (i02 ops o σ) σ.ev σ.own[an.rt]? V s ob ∧ K ((σ.setOwn an.rt ob).put o.dst s) V := by
 unfold Z03 at h
 split at h
 · rename_i hg
   rw [E0m hcl] at h
   obtain ⟨s, ob, hk, hc⟩ := D0m h
   obtain ⟨s', hk', hf⟩ := B0r hk
   refine ⟨s', ob, ?_, hk'⟩
   rw [hg]
   exact z0d (fun s0 ob0 ⟨e1, e2⟩ => ⟨by rw [e1]; exact hf, e2⟩) hc
 · rename_i hg
   cases hb : σ.own[an.rt]? with
   | none => exact ⟨.val undef, none, by rw [hg]; exact ⟨rfl, .inr rfl⟩, by rw [U07 hb]; exact h⟩
   | some b => exact ⟨.val undef, b, by rw [hg]; exact ⟨rfl, .inl rfl⟩, by rw [e00 hb]; exact h⟩
 · exact h.elim
theorem A0a {P : Program} {Shp ops an o σ V s ob} {K : St → View → Prop} (hcl : clsA an = 0) (h : EA P Shp an o (i02 ops o σ) σ.ev σ.own[an.rt]? V s ob)
 (hk : K ((σ.setOwn an.rt ob).put o.dst s) V) : Z03 P Shp ops an o σ V K := by
 unfold Z03
 cases hg : i02 ops o σ with
 | none => rw [hg] at h; exact h.elim
 | some g =>
   rw [hg] at h
   cases g with
   | true =>
     simp only []
     rw [E0m hcl]
     refine z0d (fun s0 ob0 ⟨h1, h2⟩ => ?_) h
     subst h2
     exact p08 (fun s1 e => by rw [e]; exact hk) h1
   | false =>
     simp only []
     obtain ⟨rfl, hb⟩ := h
     rcases hb with hb | hb
     · rw [e00 hb] at hk; exact hk
     · rw [U07 hb] at hk; exact hk
theorem t0p {P : Program} {Shp an o g ev blk V V' s ob} (hV : View.le V V') (h : EA P Shp an o g ev blk V s ob) : EA P Shp an o g ev blk V' s ob := by
 cases g with
 | none => exact h
 | some g => cases g with
   | true => exact B0n hV h
   | false => exact h
theorem q08 {P : Program} {Shp an o g ev ev' blk V s ob} (hev : ∀ x ∈ o.op.operands, ev x = ev' x) (h : EA P Shp an o g ev blk V s ob) : EA P Shp an o g ev' blk V s ob := by
 cases g with
 | none => exact h
 | some g => cases g with
   | true => exact u0l hev h
   | false => exact h
theorem W0h {P : Program} {Shp an o g ev blk V s ob} (hw : wrA an = false) (h : EA P Shp an o g ev blk V s ob) : blk = some ob ∨ blk = none := by
 cases g with
 | none => exact h.elim
 | some g => cases g with
   | false => exact h.2
   | true =>
     cases blk with
     | none => exact .inr rfl
     | some b =>
       have h3 : an.fl ≠ 3 := by intro e; simp [wrA, e] at hw
       have h6 : an.fl ≠ 6 := by intro e; simp [wrA, e] at hw
       have h16 : an.fl ≠ 16 := by intro e; simp [wrA, e] at hw
       have h23 : an.fl ≠ 23 := by intro e; simp [wrA, e] at hw
       obtain ⟨s0, ob0, ⟨rfl, _, rfl⟩, _⟩ := D0m (C0n h3 h6 h16 h23 h)
       exact .inl rfl
theorem W07 {σ : St} {r r' : Nat} {ob : Option OB} (h : r ≠ r') : (σ.setOwn r ob).own[r']? = σ.own[r']? := by
 simp [St.setOwn, List.getElem?_set_ne h]
theorem F08 {σ : St} {d : Option Tmp} {s : SV} : (σ.put d s).own = σ.own := by cases d <;> rfl
theorem X08 {σ : St} {d : Option Tmp} {s : SV} {x : Operand} (h : ∀ t, d = some t → x ≠ .tmp t) : (σ.put d s).ev x = σ.ev x := by
 cases d with
 | none => rfl
 | some t =>
   cases x with
   | tmp u =>
     have hne : t ≠ u := fun e => h t rfl (e ▸ rfl)
     simp [St.ev, St.put, List.getD, List.getElem?_set_ne hne]
   | const v => rfl
   | global g => rfl
   | func f => rfl
theorem d07 {σ : St} {r : Nat} {ob : Option OB} {x : Operand} : (σ.setOwn r ob).ev x = σ.ev x := by cases x <;> rfl
theorem U02 {ops : Array Oper} {o : Oper} {σ : St} {d : Option Tmp} {s : SV} (h : ∀ t, d = some t → t ∉ o.looksAt ops) : i02 ops o (σ.put d s) = i02 ops o σ := by
 unfold i02
 cases hg : o.guard with
 | none => rfl
 | some g =>
   obtain ⟨j, want⟩ := g
   simp only []
   cases ht : (ops[j]?).bind (·.dst) with
   | none => rfl
   | some t =>
     simp only []
     cases d with
     | none => rfl
     | some u =>
       have hne : u ≠ t := by
        rintro rfl
        refine h u rfl ?_
        simp [Oper.looksAt, hg, ht]
       have : (σ.put (some u) s).tm.getD t .any = σ.tm.getD t .any := by simp [St.put, List.getD, List.getElem?_set_ne hne]
       rw [this]
theorem S03 {ops : Array Oper} {o : Oper} {σ : St} {r : Nat} {ob : Option OB} : i02 ops o (σ.setOwn r ob) = i02 ops o σ := rfl
theorem j02 {ops : Array Oper} {o : Oper} {d : Option Tmp} (h : ∀ t, d = some t → t ∉ o.looksAt ops) : ∀ x ∈ o.op.operands, ∀ t, d = some t → x ≠ .tmp t := by
 intro x hx t ht e
 refine h t ht ?_
 subst e
 simp only [Oper.looksAt, List.mem_append, List.mem_filterMap]
 exact .inl ⟨.tmp t, by simpa using hx, rfl⟩
theorem b03 {σ : St} {d d' : Option Tmp} {s s' : SV} (h : ∀ t, d = some t → d' ≠ some t) : (σ.put d s).put d' s' = (σ.put d' s').put d s := by
 cases d with
 | none => rfl
 | some t => cases d' with
   | none => rfl
   | some t' =>
     have hne : t ≠ t' := fun e => h t rfl (by rw [e])
     simp only [St.put]
     congr 1
     exact List.set_comm _ _ hne
theorem A04 {σ : St} {r : Nat} {ob : Option OB} {d : Option Tmp} {s : SV} : (σ.put d s).setOwn r ob = (σ.setOwn r ob).put d s := by cases d <;> rfl
theorem A09 {σ : St} {r r' : Nat} {ob ob' : Option OB} (h : r ≠ r') : (σ.setOwn r ob).setOwn r' ob' = (σ.setOwn r' ob').setOwn r ob := by
 simp only [St.setOwn]
 congr 1
 exact List.set_comm _ _ h
def c0f (o : Oper) (an : An) : Bool :=
 match an.fl, an.sp, o.op with
 | 7, false, .fieldAddr _ _ _ => true
 | 7, false, .indexAddr _ _ _ => true
 | 5, false, .load _ _ => true
 | 2, false, .move _ => true
 | 2, false, .assign _ => true
 | _, _, _ => false
def x0j (ops : Array Oper) (y x : Oper × An) : Bool :=
 Oper.apart ops x.1 y.1 &&
 match clsA y.2, clsA x.2 with
 | 0, 0 => !(Nat.beq y.2.rt x.2.rt) || (!wrA y.2 && !wrA x.2)
 | 0, 1 => true
 | 1, 1 => true
 | 2, 1 => true
 | 0, 2 => true
 | 0, 4 => true
 | 0, 5 => c0f y.1 y.2 && !(Nat.beq y.2.rt x.2.rt)
 | 0, 6 => !(Nat.beq y.2.rt x.2.rt)
 | _, _ => false
section swap
variable {P : Program} {Shp : I03} {ops : Array Oper} {oy ox : Oper} {ay ax : An} {σ : St} {V : View} {K : St → View → Prop}
theorem I0s (hap : ox.apart ops oy = true) (hy : clsA ay = 0) (hx : clsA ax = 0) (hrt : ay.rt ≠ ax.rt ∨ (wrA ay = false ∧ wrA ax = false))
 (h : Z03 P Shp ops ay oy σ V fun σ1 V1 => Z03 P Shp ops ax ox σ1 V1 K) : Z03 P Shp ops ax ox σ V fun σ1 V1 => Z03 P Shp ops ay oy σ1 V1 K := by
 obtain ⟨hdx, hdd, hdy⟩ := Oper.apart_spec hap
 obtain ⟨sy, oby, hEy, h⟩ := w0j hy h
 obtain ⟨sx, obx, hEx, h⟩ := w0j hx h
 -- x at the start
 rw [U02 hdy, S03, F08] at hEx
 have hEx : EA P Shp ax ox (i02 ops ox σ) σ.ev (σ.setOwn ay.rt oby).own[ax.rt]? V sx obx :=
  q08 (fun x hx => by rw [X08 (j02 hdy x hx), d07]) hEx
 have hown : (σ.setOwn ay.rt oby).own[ax.rt]? = σ.own[ax.rt]? := by
  rcases hrt with h1 | ⟨h1, h2⟩
  · exact W07 h1
  · rcases W0h h1 hEy with e | e
    · rw [e00 e]
    · rw [U07 e]
 rw [hown] at hEx
 refine A0a hx hEx (A0a hy (s := sy) (ob := oby) ?_ ?_)
 · rw [U02 hdx, S03, F08]
   have hown' : (σ.setOwn ax.rt obx).own[ay.rt]? = σ.own[ay.rt]? := by
    rcases hrt with h1 | ⟨h1, h2⟩
    · exact W07 (fun e => h1 e.symm)
    · rcases W0h h2 hEx with e | e
      · rw [e00 e]
      · rw [U07 e]
   rw [hown']
   exact q08 (fun x hx => by rw [X08 (j02 hdx x hx), d07]) hEy
 · have e : (((σ.setOwn ax.rt obx).put ox.dst sx).setOwn ay.rt oby).put oy.dst sy = (((σ.setOwn ay.rt oby).put oy.dst sy).setOwn ax.rt obx).put ox.dst sx := by
     rw [A04, A04, b03 hdd]
     congr 2
     rcases hrt with h1 | ⟨h1, h2⟩
     · exact A09 (fun e => h1 e.symm)
     · have ey := W0h h1 hEy
       have ex := W0h h2 hEx
       have : ∀ {r : Nat} {b : Option OB} {τ : St}, (τ.own[r]? = some b ∨ τ.own[r]? = none) → τ.setOwn r b = τ := by
        intro r b τ hh; rcases hh with hh | hh
        · exact e00 hh
        · exact U07 hh
       rw [this ex, this ey, this ex]
   rw [e]; exact h
theorem d0f {o : Oper} {σ σ' : St} {K K' : St → View → Prop} (hev : ∀ x ∈ o.op.operands, σ.ev x = σ'.ev x)
 (hk : ∀ s V', V.le V' → V'.Fin → K (σ.put o.dst s) V' → K' (σ'.put o.dst s) V') (h : M0b P o σ V K) : M0b P o σ' V K' := by
 revert h; unfold M0b
 rw [c07 hev]
 split
 · intro h b V' hle hfin hb; exact hk _ _ hle hfin (h b V' hle hfin hb)
 · exact id
theorem Y08 {ts : List TypeId} {v : Value} {k k' : SV → Prop} (hk : ∀ s, k s → k' s) (h : resT Shp ts v k) : resT Shp ts v k' := by
 revert h; unfold resT
 split
 · rintro ⟨h1, h2⟩; exact ⟨h1, hk _ h2⟩
 · rintro ⟨x, h1, h2⟩; exact ⟨x, h1, hk _ h2⟩
 · rintro ⟨x, y, h1, h2⟩; exact ⟨x, y, h1, hk _ h2⟩
 · rintro ⟨x, y, z, h1, h2⟩; exact ⟨x, y, z, h1, hk _ h2⟩
 · rintro ⟨x, y, z, q, h1, h2⟩; exact ⟨x, y, z, q, h1, hk _ h2⟩
 · exact id
theorem k0c {o : Oper} {ev ev' : Operand → SV} (hev : ∀ x ∈ o.op.operands, ev x = ev' x) : S0h P o ev = S0h P o ev' := by
 unfold S0h
 split
 · rename_i c hop
   split
   · rename_i fo hcal
     rw [hev fo (by simp [hop, Op.operands, Call.operands, hcal])]
     rw [F07 (ev := ev) (ev' := ev') (l := c.args.toList) (fun x hx => hev x (by simp at hx; simp [hop, Op.operands, Call.operands, hx]))]
   · rename_i r name hcal
     rw [hev r (by simp [hop, Op.operands, Call.operands, hcal])]
     rw [F07 (ev := ev) (ev' := ev') (l := c.args.toList) (fun x hx => hev x (by simp at hx; simp [hop, Op.operands, Call.operands, hx]))]
   · rfl
 · rfl
theorem i0h {sp : Bool} {o : Oper} {σ σ' : St} {K K' : St → View → Prop} (hev : ∀ x ∈ o.op.operands, σ.ev x = σ'.ev x)
 (hk : ∀ s V', V.le V' → V'.Fin → K (σ.put o.dst s) V' → K' (σ'.put o.dst s) V') (h : n0g P Shp sp o σ V K) : n0g P Shp sp o σ' V K' := by
 revert h; unfold n0g
 rw [k0c hev]
 split
 · intro h
   exact h.mono' fun v V' hle hfin hr => Y08 (fun s hs => p08 (fun s' hs' => hk s' V' hle hfin hs') hs) hr
 · exact id
theorem z0m {f : FuncId} {args : Array Value} {V V' : View} {R : Value → View → Prop} (hle : V.le V') (h : a00 P f args V R) :
 a00 P f args V' fun v V2 => ∃ V1, View.le V1 V2 ∧ View.le V V1 ∧ R v V1 := by
 intro w hw
 refine (h w (j0j hle hw)).mono fun e w' ⟨v, V1, he, hl1, hin1, hf1, hb, hr⟩ => ?_
 let V2 : View := fun i => match V' i with | some cs => some cs | none => V1 i
 have hinV' : V'.In w' := by
  intro b cs hb'
  obtain ⟨T, fr, hwb⟩ := hw b cs hb'
  refine ⟨T, fr, ?_⟩
  rw [hb.block b (by
   rcases Nat.lt_or_ge b w.heap.size with h | h
   · exact h
   · rw [Array.getElem?_eq_none h] at hwb; simp at hwb)]
  exact hwb
 refine ⟨v, V2, he, ?_, ?_, ?_, hb, V1, ?_, hl1, hr⟩
 · intro b cs hb'; simp [V2, hb']
 · intro b cs hb'
   simp only [V2] at hb'
   split at hb'
   · rename_i ds hd; cases hb'; exact hinV' b _ hd
   · exact hin1 b cs hb'
 · intro b cs hb'
   simp only [V2] at hb'
   split at hb'
   · rename_i ds hd; cases hb'; exact .inl hd
   · rename_i hd
     rcases hf1 b cs hb' with h1 | h1
     · rw [hle b cs h1] at hd; simp at hd
     · exact .inr h1
 · intro b cs hb'
   simp only [V2]
   split
   · rename_i ds hd
     obtain ⟨T, fr, h1⟩ := hinV' b ds hd
     obtain ⟨T', fr', h2⟩ := hin1 b cs hb'
     rw [h1] at h2; simp at h2; simp [h2.1]
   · exact hb'
theorem P07 {an : An} {o : Oper} (h : Z03 P Shp ops an o σ V K) :
 (i02 ops o σ = some true ∧ actT P Shp an o σ V K) ∨ (i02 ops o σ = some false ∧ K (σ.put o.dst (.val undef)) V) := by
 unfold Z03 at h
 split at h
 · rename_i hg; exact .inl ⟨hg, h⟩
 · rename_i hg; exact .inr ⟨hg, h⟩
 · exact h.elim
theorem B09 {an : An} {o : Oper} (hg : i02 ops o σ = some true) (h : actT P Shp an o σ V K) : Z03 P Shp ops an o σ V K := by unfold Z03; rw [hg]; exact h
theorem e06 {an : An} {o : Oper} (hg : i02 ops o σ = some false) (h : K (σ.put o.dst (.val undef)) V) : Z03 P Shp ops an o σ V K := by unfold Z03; rw [hg]; exact h
theorem G0c {an : An} {o : Oper} (hcl : clsA an = 1) : actT P Shp an o σ V K = M0b P o σ V K := by
 unfold actT
 split
 all_goals first
  | rfl
  | (rename_i h; simp [clsA, h] at hcl; done)
  | (simp [clsA] at hcl; split at hcl <;> simp_all)
theorem H0e {an : An} {o : Oper} (hcl : clsA an = 2) : actT P Shp an o σ V K = n0g P Shp an.sp o σ V K := by
 unfold actT
 split
 all_goals first
  | rfl
  | (rename_i h; simp [clsA, h] at hcl; done)
  | (simp [clsA] at hcl; split at hcl <;> simp_all)
theorem W0r {an : An} {o : Oper} (hcl : clsA an = 5) : actT P Shp an o σ V K = appT P an.rt o σ V K := by
 unfold actT
 split
 all_goals first
  | rfl
  | (rename_i h; simp [clsA, h] at hcl; done)
  | (simp [clsA] at hcl; split at hcl <;> simp_all)
theorem u0p {an : An} {o : Oper} (hcl : clsA an = 4) : (∀ σ V K, actT P Shp an o σ V K = z09 P o σ V K) ∨ (∀ σ V K, actT P Shp an o σ V K = m0l P o σ V K) := by
 have h : an.fl = 15 ∨ an.fl = 17 := by
  simp [clsA] at hcl; split at hcl <;> simp_all
 rcases h with h | h
 · exact .inl fun σ V K => by unfold actT; rw [h]; rfl
 · exact .inr fun σ V K => by unfold actT; rw [h]; rfl
theorem C09 {o : Oper} {x y : Operand} {e : TypeId} {sz bs : Nat} (h : appQ P o = some (x, y, e, sz, bs)) : x ∈ o.op.operands ∧ y ∈ o.op.operands := by
 obtain ⟨t, i, z, hop, _⟩ := F0c h
 simp [hop, Op.operands, Call.operands]
theorem H0c {o : Oper} {σ σ' : St} {K K' : St → View → Prop} (hev : ∀ x ∈ o.op.operands, σ.ev x = σ'.ev x)
 (hk : ∀ s V', V.le V' → V'.Fin → K (σ.put o.dst s) V' → K' (σ'.put o.dst s) V') (h : z09 P o σ V K) : z09 P o σ' V K' := by
 revert h; unfold z09
 split
 · rename_i x y e sz bs hq
   obtain ⟨h1, h2⟩ := C09 hq
   rw [hev x h1, hev y h2]
   split
   · rintro ⟨e0, xs, vs, a1, a2, a3, a4, a5, a6, h⟩
     exact ⟨e0, xs, vs, a1, a2, a3, a4, a5, a6, fun ra rc V' b1 b2 b3 b4 b5 => hk _ V' b1 b2 (h ra rc V' b1 b2 b3 b4 b5)⟩
   · exact id
 · exact id
theorem j0h {o : Oper} {σ σ' : St} {K K' : St → View → Prop} (hev : ∀ x ∈ o.op.operands, σ.ev x = σ'.ev x)
 (hk : ∀ s V', V.le V' → V'.Fin → K (σ.put o.dst s) V' → K' (σ'.put o.dst s) V') (h : m0l P o σ V K) : m0l P o σ' V K' := by
 revert h; unfold m0l
 split
 · rename_i t n c hop
   rw [hev n (by simp [hop, Op.operands]), hev c (by simp [hop, Op.operands])]
   split
   · split
     · rintro ⟨h1, h⟩
       refine ⟨h1, ?_⟩
       revert h
       split
       · intro h b V' b1 b2 b3; exact hk _ V' b1 b2 (h b V' b1 b2 b3)
       · exact id
     · exact id
   · exact id
 · exact id
theorem w0l {an : An} (hcl : clsA an = 4) {o : Oper} {σ σ' : St} {K K' : St → View → Prop} (hev : ∀ x ∈ o.op.operands, σ.ev x = σ'.ev x)
 (hk : ∀ s V', V.le V' → V'.Fin → K (σ.put o.dst s) V' → K' (σ'.put o.dst s) V') (h : actT P Shp an o σ V K) : actT P Shp an o σ' V K' := by
 rcases u0p (P := P) (Shp := Shp) (o := o) hcl with e | e
 · rw [e] at h ⊢; exact H0c hev hk h
 · rw [e] at h ⊢; exact j0h hev hk h
theorem x0l {σ : St} {id : Nat} (x : Operand) : (σ.kill id).ev x = N04 id (σ.ev x) := by
 cases x with
 | tmp t =>
   simp only [St.ev, St.kill, List.getD, List.getElem?_map]
   cases σ.tm[t]? <;> rfl
 | const v => rfl
 | global g => rfl
 | func f => rfl
theorem W0d {ops : Array Oper} {o : Oper} {σ : St} {id : Nat} : i02 ops o (σ.kill id) = i02 ops o σ := by
 unfold i02
 cases o.guard with
 | none => rfl
 | some g =>
   obtain ⟨j, want⟩ := g
   simp only []
   cases (ops[j]?).bind (·.dst) with
   | none => rfl
   | some t =>
     simp only []
     have : (σ.kill id).tm.getD t .any = N04 id (σ.tm.getD t .any) := x0l (.tmp t)
     rw [this]
     cases σ.tm.getD t .any with
     | lst i n c => by_cases e : i = id <;> simp [N04, e]
     | les i n c => by_cases e : i = id <;> simp [N04, e]
     | tlst i n c r => by_cases e : i = id <;> simp [N04, e]
     | _ => rfl
theorem F0m {σ : St} {id r : Nat} : (σ.kill id).own[r]? = (σ.own[r]?).map (D0c id) := by simp [St.kill]
theorem G0m {σ : St} {id : Nat} {d : Option Tmp} {s : SV} : (σ.put d s).kill id = (σ.kill id).put d (N04 id s) := by
 cases d with
 | none => rfl
 | some t => simp [St.put, St.kill, List.map_set]
theorem e0f {σ : St} {id r : Nat} {ob : Option OB} : (σ.setOwn r ob).kill id = (σ.kill id).setOwn r (D0c id ob) := by simp [St.setOwn, St.kill, List.map_set]
theorem w0p {id : Nat} {an : An} {o : Oper} {g : Option Bool} {ev : Operand → SV} {blk : Option (Option OB)} {s : SV} {ob : Option OB} (hb : c0f o an = true) (h : EA P Shp an o g ev blk V s ob) :
 EA P Shp an o g (fun x => N04 id (ev x)) (blk.map (D0c id)) V (N04 id s) (D0c id ob) := by
 cases g with
 | none => exact h
 | some g =>
   cases g with
   | false =>
     obtain ⟨rfl, h⟩ := h
     refine ⟨rfl, ?_⟩
     rcases h with rfl | rfl
     · exact .inl rfl
     · exact .inr rfl
   | true =>
     simp only [EA] at h ⊢
     unfold c0f at hb
     split at hb
     · rename_i hfl hsp hop
       unfold t07 at h ⊢
       rw [hfl] at h ⊢
       cases blk with
       | none => simp [Y03, hop] at h
       | some b =>
         simp only [Y03, hop, hsp, fin, Option.map_some] at h ⊢
         split at h
         · rename_i he hq
           rw [he]
           simp only [N04, hq]
           obtain ⟨rfl, rfl⟩ := h
           exact ⟨rfl, rfl⟩
         · rename_i he hq
           rw [he]
           simp only [N04, hq]
           obtain ⟨hpa, rfl, rfl⟩ := h
           exact ⟨hpa, rfl, rfl⟩
         · exact h.elim
     · rename_i hfl hsp hop
       unfold t07 at h ⊢
       rw [hfl] at h ⊢
       cases blk with
       | none => simp [Y03, hop] at h
       | some b =>
         simp only [Y03, hop, hsp, fin, Option.map_some] at h ⊢
         split at h
         · rename_i he hi
           rw [he, hi]
           simp only [N04]
           split at h
           · rename_i hE
             split at h
             · rename_i hZ
               obtain ⟨h1, rfl, rfl⟩ := h
               exact ⟨h1, rfl, rfl⟩
             · exact h.elim
           · exact h.elim
         · rename_i he hi
           rw [he, hi]
           simp only [N04]
           split at h
           · rename_i hE
             split at h
             · rename_i hZ
               obtain ⟨h1, rfl, rfl⟩ := h
               exact ⟨h1, rfl, rfl⟩
             · exact h.elim
           · exact h.elim
         · rename_i he hi
           rw [he, hi]
           simp only [N04]
           split at h
           · rename_i hE
             split at h
             · rename_i hZ
               obtain ⟨h1, rfl, rfl⟩ := h
               exact ⟨h1, rfl, rfl⟩
             · exact h.elim
           · exact h.elim
         · exact h.elim
     · rename_i hfl hsp hop
       unfold t07 at h ⊢
       rw [hfl] at h ⊢
       cases blk with
       | none => simp [a06, hop] at h
       | some b =>
         simp only [a06, hop, hsp, fin, Option.map_some] at h ⊢
         split at h
         · rename_i he
           rw [he]
           simp only [N04]
           split at h
           · rename_i hA hZ
             obtain ⟨x, h1, h2, h⟩ := h
             refine ⟨x, h1, h2, ?_⟩
             split at h
             · rename_i hv
               split at h
               · rename_i hq
                 obtain ⟨rfl, rfl⟩ := h
                 exact ⟨rfl, rfl⟩
               · exact h.elim
             · exact h.elim
           · rename_i hA
             obtain ⟨x, h1, rfl, rfl⟩ := h
             exact ⟨x, h1, rfl, rfl⟩
           · exact h.elim
         · exact h.elim
     · rename_i hfl hsp hop
       unfold t07 at h ⊢
       rw [hfl] at h ⊢
       simp only [n05, hop, hsp, fin] at h ⊢
       cases blk with
       | none => exact h.elim
       | some b => obtain ⟨rfl, rfl⟩ := h; exact ⟨rfl, rfl⟩
     · rename_i hfl hsp hop
       unfold t07 at h ⊢
       rw [hfl] at h ⊢
       simp only [n05, hop, hsp, fin] at h ⊢
       cases blk with
       | none => exact h.elim
       | some b => obtain ⟨rfl, rfl⟩ := h; exact ⟨rfl, rfl⟩
     · simp at hb
theorem J0s (hap : ox.apart ops oy = true) (hb : c0f oy ay = true) (hx : clsA ax = 5) (hrt : ay.rt ≠ ax.rt)
 (h : Z03 P Shp ops ay oy σ V fun σ1 V1 => Z03 P Shp ops ax ox σ1 V1 K) : Z03 P Shp ops ax ox σ V fun σ1 V1 => Z03 P Shp ops ay oy σ1 V1 K := by
 have hy : clsA ay = 0 := by
  unfold c0f at hb; unfold clsA
  split at hb
  · rename_i h _ _; rw [h]; rfl
  · rename_i h _ _; rw [h]; rfl
  · rename_i h _ _; rw [h]; rfl
  · rename_i h _ _; rw [h]; rfl
  · rename_i h _ _; rw [h]; rfl
  · simp at hb
 obtain ⟨hdx, hdd, hdy⟩ := Oper.apart_spec hap
 obtain ⟨sy, oby, hEy, h⟩ := w0j hy h
 have hev : ∀ x ∈ ox.op.operands, ((σ.setOwn ay.rt oby).put oy.dst sy).ev x = σ.ev x := fun x hx => by rw [X08 (j02 hdy x hx), d07]
 have hg : i02 ops ox ((σ.setOwn ay.rt oby).put oy.dst sy) = i02 ops ox σ := by rw [U02 hdy, S03]
 rcases P07 h with ⟨g, h⟩ | ⟨g, h⟩
 · rw [hg] at g
   refine B09 g ?_
   rw [W0r hx] at h ⊢
   unfold appT at h ⊢
   split at h
   · rename_i x y e sz bs hq
     obtain ⟨m1, m2⟩ := C09 hq
     rw [hev x m1, hev y m2, F08, W07 hrt] at h
     revert h
     split
     · split
       · rintro ⟨xs, vs, a1, a2, a3, a4, a5, a6, h⟩
         refine ⟨xs, vs, a1, a2, a3, a4, a5, a6, fun cap' l' hok => ?_⟩
         have hk := h cap' l' hok
         refine A0a hy (s := N04 ax.rt sy) (ob := D0c ax.rt oby) ?_ ?_
         · rw [U02 hdx, S03, W0d, F08, W07 (fun e => hrt e.symm), F0m]
           refine q08 (fun x hx => ?_) (w0p hb hEy)
           rw [X08 (j02 hdx x hx), d07, x0l]
         · have e1 : ∀ (X : SV) (L : Option OB), ((((σ.kill ax.rt).setOwn ax.rt L).put ox.dst X).setOwn ay.rt (D0c ax.rt oby)).put oy.dst (N04 ax.rt sy) =
               ((((σ.setOwn ay.rt oby).put oy.dst sy).kill ax.rt).setOwn ax.rt L).put ox.dst X := by
             intro X L
             rw [G0m, e0f, A04 (σ := (σ.kill ax.rt).setOwn ax.rt L), A04 (σ := (σ.kill ax.rt).setOwn ay.rt (D0c ax.rt oby)), b03 hdd, A09 hrt]
           rw [e1]; exact hk
       · exact fun h => h.elim
     · split
       · rintro ⟨xs, vs, a1, a2, a3, a4, a5, a6, h⟩
         refine ⟨xs, vs, a1, a2, a3, a4, a5, a6, fun cap' l' hok => ?_⟩
         have hk := h cap' l' hok
         refine A0a hy (s := N04 ax.rt sy) (ob := D0c ax.rt oby) ?_ ?_
         · rw [U02 hdx, S03, W0d, F08, W07 (fun e => hrt e.symm), F0m]
           refine q08 (fun x hx => ?_) (w0p hb hEy)
           rw [X08 (j02 hdx x hx), d07, x0l]
         · have e1 : ∀ (X : SV) (L : Option OB), ((((σ.kill ax.rt).setOwn ax.rt L).put ox.dst X).setOwn ay.rt (D0c ax.rt oby)).put oy.dst (N04 ax.rt sy) =
               ((((σ.setOwn ay.rt oby).put oy.dst sy).kill ax.rt).setOwn ax.rt L).put ox.dst X := by
             intro X L
             rw [G0m, e0f, A04 (σ := (σ.kill ax.rt).setOwn ax.rt L), A04 (σ := (σ.kill ax.rt).setOwn ay.rt (D0c ax.rt oby)), b03 hdd, A09 hrt]
           rw [e1]; exact hk
       · exact fun h => h.elim
     · exact fun h => h.elim
   · exact h.elim
 · rw [hg] at g
   refine e06 g (A0a hy (s := sy) (ob := oby) ?_ ?_)
   · rw [U02 hdx, F08]
     exact q08 (fun x hx => by rw [X08 (j02 hdx x hx)]) hEy
   · rw [A04, b03 hdd]; exact h
theorem I0n {an : An} (hcl : clsA an = 6) : (∀ o σ V K, actT P Shp an o σ V K = N0b P Shp an.sp an.rt o σ V K) ∨ (∀ o σ V K, actT P Shp an o σ V K = o0g P an.rt o σ V K) := by
 have h : an.fl = 24 ∨ an.fl = 25 := by
  simp [clsA] at hcl; split at hcl <;> simp_all
 rcases h with h | h
 · exact .inl fun o σ V K => by unfold actT; rw [h]; rfl
 · exact .inr fun o σ V K => by unfold actT; rw [h]; rfl
theorem y0l {sp : Bool} {rt : Nat} {o : Oper} {σ σ' : St} {K K' : St → View → Prop} (hev : ∀ x ∈ o.op.operands, σ.ev x = σ'.ev x) (hown : σ.own[rt]? = σ'.own[rt]?)
 (hk : ∀ L s V', V.le V' → V'.Fin → K ((σ.setOwn rt L).put o.dst s) V' → K' ((σ'.setOwn rt L).put o.dst s) V') (h : N0b P Shp sp rt o σ V K) : N0b P Shp sp rt o σ' V K' := by
 revert h; unfold N0b
 rw [k0c hev, hown]
 split
 · intro h; exact h.mono fun v m' V' hle hfin r => Y08 (fun s => p08 fun s => hk _ s V' hle hfin) r
 · exact id
theorem J0n {rt : Nat} {o : Oper} {σ σ' : St} {K K' : St → View → Prop} (hev : ∀ x ∈ o.op.operands, σ.ev x = σ'.ev x) (hown : σ.own[rt]? = σ'.own[rt]?)
 (hk : ∀ L s, K ((σ.setOwn rt L).put o.dst s) V → K' ((σ'.setOwn rt L).put o.dst s) V) (h : o0g P rt o σ V K) : o0g P rt o σ' V K' := by
 revert h; unfold o0g
 rw [hown]
 split
 · rename_i x y e sz bs ty m hq hm
   obtain ⟨h1, h2⟩ := C09 hq
   rw [hev x h1, hev y h2]
   split
   · rintro ⟨xs, vs, a1, a2, a3, a4, a5, a6, a7, a8, h3, h4⟩
     exact ⟨xs, vs, a1, a2, a3, a4, a5, a6, a7, a8, h3, fun ra rc m' g => hk _ _ (h4 ra rc m' g)⟩
   · exact id
 · exact id
theorem K0s (hap : ox.apart ops oy = true) (hy : clsA ay = 0) (hx : clsA ax = 6) (hrt : ay.rt ≠ ax.rt)
 (h : Z03 P Shp ops ay oy σ V fun σ1 V1 => Z03 P Shp ops ax ox σ1 V1 K) : Z03 P Shp ops ax ox σ V fun σ1 V1 => Z03 P Shp ops ay oy σ1 V1 K := by
 obtain ⟨hdx, hdd, hdy⟩ := Oper.apart_spec hap
 obtain ⟨sy, oby, hEy, h⟩ := w0j hy h
 have hfin : ∀ L s V', V.le V' → K ((((σ.setOwn ay.rt oby).put oy.dst sy).setOwn ax.rt L).put ox.dst s) V' → Z03 P Shp ops ay oy ((σ.setOwn ax.rt L).put ox.dst s) V' K := by
  intro L s V' hle hk
  refine A0a hy (s := sy) (ob := oby) ?_ ?_
  · rw [U02 hdx, S03, F08, W07 (fun e => hrt e.symm)]
    exact t0p hle (q08 (fun x hx => by rw [X08 (j02 hdx x hx), d07]) hEy)
  · have e1 : (((σ.setOwn ax.rt L).put ox.dst s).setOwn ay.rt oby).put oy.dst sy = (((σ.setOwn ay.rt oby).put oy.dst sy).setOwn ax.rt L).put ox.dst s := by
      rw [A04 (σ := σ.setOwn ax.rt L), A04 (σ := σ.setOwn ay.rt oby), b03 hdd, A09 hrt]
    rw [e1]; exact hk
 have hev : ∀ x ∈ ox.op.operands, ((σ.setOwn ay.rt oby).put oy.dst sy).ev x = σ.ev x := fun x hx => by rw [X08 (j02 hdy x hx), d07]
 have hown : ((σ.setOwn ay.rt oby).put oy.dst sy).own[ax.rt]? = σ.own[ax.rt]? := by rw [F08, W07 hrt]
 have hg : i02 ops ox ((σ.setOwn ay.rt oby).put oy.dst sy) = i02 ops ox σ := by rw [U02 hdy, S03]
 rcases P07 h with ⟨g, h⟩ | ⟨g, h⟩
 · rw [hg] at g
   refine B09 g ?_
   rcases I0n (P := P) (Shp := Shp) hx with hx | hx
   · rw [hx] at h ⊢; exact y0l hev hown (fun L s V' hle _ => hfin L s V' hle) h
   · rw [hx] at h ⊢; exact J0n hev hown (fun L s => hfin L s V (View.le_refl V)) h
 · rw [hg] at g
   refine e06 g (A0a hy (s := sy) (ob := oby) ?_ ?_)
   · rw [U02 hdx, F08]
     exact q08 (fun x hx => by rw [X08 (j02 hdx x hx)]) hEy
   · rw [A04, b03 hdd]; exact h
theorem x0p (hap : ox.apart ops oy = true) (hy : clsA ay = 0) (hx : clsA ax = 1 ∨ clsA ax = 2 ∨ clsA ax = 4)
 (h : Z03 P Shp ops ay oy σ V fun σ1 V1 => Z03 P Shp ops ax ox σ1 V1 K) : Z03 P Shp ops ax ox σ V fun σ1 V1 => Z03 P Shp ops ay oy σ1 V1 K := by
 obtain ⟨hdx, hdd, hdy⟩ := Oper.apart_spec hap
 obtain ⟨sy, oby, hEy, h⟩ := w0j hy h
 have hfin : ∀ s V', V.le V' → K (((σ.setOwn ay.rt oby).put oy.dst sy).put ox.dst s) V' → Z03 P Shp ops ay oy (σ.put ox.dst s) V' K := by
  intro s V' hle hk
  refine A0a hy (s := sy) (ob := oby) ?_ ?_
  · rw [U02 hdx, F08]
    exact t0p hle (q08 (fun x hx => by rw [X08 (j02 hdx x hx)]) hEy)
  · rw [A04, b03 hdd]; exact hk
 have hev : ∀ x ∈ ox.op.operands, ((σ.setOwn ay.rt oby).put oy.dst sy).ev x = σ.ev x := fun x hx => by rw [X08 (j02 hdy x hx), d07]
 have hg : i02 ops ox ((σ.setOwn ay.rt oby).put oy.dst sy) = i02 ops ox σ := by rw [U02 hdy, S03]
 rcases P07 h with ⟨g, h⟩ | ⟨g, h⟩
 · rw [hg] at g
   refine B09 g ?_
   rcases hx with hx | hx | hx
   · rw [G0c hx] at h ⊢; exact d0f hev (fun s V' hle _ => hfin s V' hle) h
   · rw [H0e hx] at h ⊢; exact i0h hev (fun s V' hle _ => hfin s V' hle) h
   · exact w0l hx hev (fun s V' hle _ => hfin s V' hle) h
 · rw [hg] at g
   exact e06 g (hfin _ V (View.le_refl V) h)
theorem f0f {an : An} {o : Oper} (hcl : clsA an = 1) {σ' : St} (hg : i02 ops o σ' = i02 ops o σ) (hev : ∀ x ∈ o.op.operands, σ'.ev x = σ.ev x) (h : Z03 P Shp ops an o σ' V K) :
 (i02 ops o σ = some true ∧ ∃ cells n, z0c P o σ.ev = some (cells, n) ∧ ∀ (b : Nat) (V' : View), V.le V' → V'.Fin → V' b = some cells → K (σ'.put o.dst (.val (.slice (some ⟨b, 0, none⟩) n n))) V') ∨
 (i02 ops o σ = some false ∧ K (σ'.put o.dst (.val undef)) V) := by
 rcases P07 h with ⟨g, h⟩ | ⟨g, h⟩
 · rw [hg] at g
   rw [G0c hcl] at h
   unfold M0b at h
   rw [c07 hev] at h
   split at h
   · rename_i cells n hC; exact .inl ⟨g, cells, n, hC, h⟩
   · exact h.elim
 · rw [hg] at g
   exact .inr ⟨g, h⟩
theorem X07 {an : An} {o : Oper} (hcl : clsA an = 1) (hg : i02 ops o σ = some true) {cells : Array Value} {n : Nat} (hC : z0c P o σ.ev = some (cells, n))
 (h : ∀ (b : Nat) (V' : View), V.le V' → V'.Fin → V' b = some cells → K (σ.put o.dst (.val (.slice (some ⟨b, 0, none⟩) n n))) V') : Z03 P Shp ops an o σ V K := by
 refine B09 hg ?_
 rw [G0c hcl]
 unfold M0b
 rw [hC]
 exact h
theorem View.Fin.more {V : View} (h : V.Fin) (cells : Array Value) : ∃ b V', View.le V V' ∧ V'.Fin ∧ V' b = some cells := by
 obtain ⟨n, hn⟩ := h
 refine ⟨n, fun i => if i = n then some cells else V i, k08 (hn n (Nat.le_refl n)), ⟨n + 1, fun b hb => ?_⟩, by simp⟩
 have : b ≠ n := by omega
 simp [this, hn b (by omega)]
theorem C0r (hV : V.Fin) (hap : ox.apart ops oy = true) (hy : clsA ay = 1 ∨ clsA ay = 2) (hx : clsA ax = 1)
 (h : Z03 P Shp ops ay oy σ V fun σ1 V1 => Z03 P Shp ops ax ox σ1 V1 K) : Z03 P Shp ops ax ox σ V fun σ1 V1 => Z03 P Shp ops ay oy σ1 V1 K := by
 obtain ⟨hdx, hdd, hdy⟩ := Oper.apart_spec hap
 have evx : ∀ s, ∀ x ∈ ox.op.operands, (σ.put oy.dst s).ev x = σ.ev x := fun s x hx => X08 (j02 hdy x hx)
 have evy : ∀ s, ∀ x ∈ oy.op.operands, (σ.put ox.dst s).ev x = σ.ev x := fun s x hx => X08 (j02 hdx x hx)
 have gx : ∀ s, i02 ops ox (σ.put oy.dst s) = i02 ops ox σ := fun s => U02 hdy
 have gy : ∀ s, i02 ops oy (σ.put ox.dst s) = i02 ops oy σ := fun s => U02 hdx
 rcases P07 h with ⟨g, h⟩ | ⟨g, h⟩
 · rcases hy with hy | hy
   · rw [G0c hy] at h
     unfold M0b at h
     split at h
     · rename_i cy ny hCy
       obtain ⟨b0, V0, hle0, hfin0, hb0⟩ := hV.more cy
       rcases f0f hx (gx _) (evx _) (h b0 V0 hle0 hfin0 hb0) with ⟨gX, cx, nx, hCx, _⟩ | ⟨gX, _⟩
       · refine X07 hx gX hCx fun b V' hle hfin hb => ?_
         refine X07 hy (by rw [gy]; exact g) (by rw [c07 (evy _)]; exact hCy) fun b2 V2 hle2 hfin2 hb2 => ?_
         rcases f0f hx (gx _) (evx _) (h b2 V2 (View.le_trans hle hle2) hfin2 hb2) with ⟨_, cx', nx', hCx', hk⟩ | ⟨gX', _⟩
         · rw [hCx] at hCx'; cases hCx'
           have := hk b V2 (View.le_refl _) hfin2 (hle2 _ _ hb)
           rw [b03 hdd]; exact this
         · rw [gX] at gX'; cases gX'
       · refine e06 gX ?_
         refine X07 hy (by rw [gy]; exact g) (by rw [c07 (evy _)]; exact hCy) fun b2 V2 hle2 hfin2 hb2 => ?_
         rcases f0f hx (gx _) (evx _) (h b2 V2 hle2 hfin2 hb2) with ⟨gX', _⟩ | ⟨_, hk⟩
         · rw [gX] at gX'; cases gX'
         · rw [b03 hdd]; exact hk
     · exact h.elim
   · rw [H0e hy] at h
     unfold n0g at h
     split at h
     · rename_i f vs hq
       have hq' : ∀ s, S0h P oy (σ.put ox.dst s).ev = some (f, vs) := fun s => by rw [k0c (evy s)]; exact hq
       obtain ⟨v0, V0, hle0, hfin0, hr0⟩ := h.inst hV
       obtain ⟨s0, hk0, _⟩ := B0r (E0c hr0)
       have hcall : ∀ s V', V.le V' → V'.Fin → (∀ s' V1 V2, V.le V1 → V1.le V2 → V'.le V2 → V2.Fin → Z03 P Shp ops ax ox (σ.put oy.dst s') V1 K → K ((σ.put ox.dst s).put oy.dst s') V2) →
        Z03 P Shp ops ay oy (σ.put ox.dst s) V' K := by
        intro s V' hle hfin hK
        refine B09 (by rw [gy]; exact g) ?_
        rw [H0e hy]
        unfold n0g
        rw [hq' s]
        refine (z0m hle h).mono' fun v V2 hle2 hfin2 ⟨V1, hl12, hl1, hr⟩ => ?_
        exact Y08 (fun s hs => p08 (fun s' hs' => hK s' V1 V2 hl1 hl12 hle2 hfin2 hs') hs) hr
       rcases f0f hx (gx _) (evx _) hk0 with ⟨gX, cx, nx, hCx, _⟩ | ⟨gX, _⟩
       · refine X07 hx gX hCx fun b V' hle hfin hb => hcall _ V' hle hfin fun s' V1 V2 hl1 hl12 hl2 hfin2 hs => ?_
         rcases f0f hx (gx _) (evx _) hs with ⟨_, cx', nx', hCx', hk⟩ | ⟨gX', _⟩
         · rw [hCx] at hCx'; cases hCx'
           have := hk b V2 hl12 hfin2 (hl2 _ _ hb)
           rw [b03 hdd]; exact this
         · rw [gX] at gX'; cases gX'
       · refine e06 gX (B09 (by rw [gy]; exact g) ?_)
         rw [H0e hy]
         unfold n0g
         rw [hq' (.val undef)]
         refine h.mono' fun v V1 hl1 hf1 hr => Y08 (fun s hs => p08 (fun s' hs' => ?_) hs) hr
         rcases f0f hx (gx _) (evx _) hs' with ⟨gX', _⟩ | ⟨_, hk⟩
         · rw [gX] at gX'; cases gX'
         · rw [b03 hdd]; exact hk
     · exact h.elim
 · rcases f0f hx (gx _) (evx _) h with ⟨gX, cx, nx, hCx, hk⟩ | ⟨gX, hk⟩
   · refine X07 hx gX hCx fun b V' hle hfin hb => e06 (by rw [gy]; exact g) ?_
     rw [b03 hdd]; exact hk b V' hle hfin hb
   · refine e06 gX (e06 (by rw [gy]; exact g) ?_)
     rw [b03 hdd]; exact hk
end swap
