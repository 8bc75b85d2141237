/- Part. -/
import Derived.Test.YtefkpimcffofaaaGreatVcE
namespace Go.Vc
open Go Go.RowKit
def wrA (an : An) : Bool := an.fl == 3 || an.fl == 6 || an.fl == 16 || an.fl == 23
def clsA (an : An) : Nat := match an.fl with | 10 => 2 | 11 => 1 | 13 => 5 | 14 => 3 | 15 => 4 | 17 => 4 | 18 => 3 | 19 => 3 | 21 => 3 | 24 => 6 | 25 => 6 | _ => 0
theorem w0r {sp : Bool} {s : SV} {k : SV → Prop} (h : fin sp s k) : ∃ s', k s' ∧ fin sp s (fun t => t = s') := by
 revert h; unfold fin
 split
 · intro h; exact ⟨_, h, rfl⟩
 · split
   · intro h; exact ⟨_, h, rfl⟩
   · rename_i b
     intro h
     cases b with
     | true => exact ⟨_, h.1 rfl, ⟨fun _ => rfl, by simp⟩⟩
     | false => exact ⟨_, h.2 rfl, ⟨by simp, fun _ => rfl⟩⟩
   · intro h; exact h.elim
theorem I08 {sp : Bool} {s : SV} {k k' : SV → Prop} (hk : ∀ s, k s → k' s) (h : fin sp s k) : fin sp s k' := by
 revert h; unfold fin
 split
 · exact hk _
 · split
   · exact hk _
   · intro h; exact ⟨fun e => hk _ (h.1 e), fun e => hk _ (h.2 e)⟩
   · exact id
def EA (P : Program) (Shp : X03) (an : An) (o : Oper) (g : Option Bool) (ev : Operand → SV) (blk : Option (Option OB)) (V : View) (s : SV) (ob : Option OB) : Prop :=
 match g with
 | some true => L07 P Shp V an o ev blk fun s0 ob0 => fin an.sp s0 (fun s1 => s1 = s) ∧ ob0 = ob
 | some false => s = .val undef ∧ (blk = some ob ∨ blk = none)
 | none => False
theorem n08 {σ : St} {rt : Nat} {b : Option OB} (h : σ.own[rt]? = none) : σ.setOwn rt b = σ := by
 unfold St.setOwn
 congr 1
 have : σ.own.length ≤ rt := by
  rcases Nat.lt_or_ge rt σ.own.length with h' | h'
  · rw [List.getElem?_eq_getElem h'] at h; simp at h
  · exact h'
 exact List.set_eq_of_length_le this
theorem t0m {P : Program} {Shp an o σ V} {K : St → View → Prop} (hcl : clsA an = 0) :
 actT P Shp an o σ V K = L07 P Shp V an o σ.ev σ.own[an.rt]? fun s ob => fin an.sp s fun s => K ((σ.setOwn an.rt ob).put o.dst s) V := by
 unfold actT
 split
 all_goals first
  | rfl
  | (rename_i h; simp [clsA, h] at hcl; done)
theorem m0j {P : Program} {Shp ops an o σ V} {K : St → View → Prop} (hcl : clsA an = 0) (h : b04 P Shp ops an o σ V K) :
 ∃ s ob, EA P Shp an o (k02 ops o σ) σ.ev σ.own[an.rt]? V s ob ∧ K ((σ.setOwn an.rt ob).put o.dst s) V := by
 unfold b04 at h
 split at h
 · rename_i hg
   rw [t0m hcl] at h
   obtain ⟨s, ob, hk, hc⟩ := s0m h
   obtain ⟨s', hk', hf⟩ := w0r hk
   refine ⟨s', ob, ?_, hk'⟩
   rw [hg]
   exact C0d (fun s0 ob0 ⟨e1, e2⟩ => ⟨by rw [e1]; exact hf, e2⟩) hc
 · rename_i hg
   cases hb : σ.own[an.rt]? with
   | none => exact ⟨.val undef, none, by rw [hg]; exact ⟨rfl, .inr rfl⟩, by rw [n08 hb]; exact h⟩
   | some b => exact ⟨.val undef, b, by rw [hg]; exact ⟨rfl, .inl rfl⟩, by rw [f00 hb]; exact h⟩
 · exact h.elim
theorem M0a {P : Program} {Shp ops an o σ V s ob} {K : St → View → Prop} (hcl : clsA an = 0) (h : EA P Shp an o (k02 ops o σ) σ.ev σ.own[an.rt]? V s ob)
 (hk : K ((σ.setOwn an.rt ob).put o.dst s) V) : b04 P Shp ops an o σ V K := by
 unfold b04
 cases hg : k02 ops o σ with
 | none => rw [hg] at h; exact h.elim
 | some g =>
   rw [hg] at h
   cases g with
   | true =>
     simp only []
     rw [t0m hcl]
     refine C0d (fun s0 ob0 ⟨h1, h2⟩ => ?_) h
     subst h2
     exact I08 (fun s1 e => by rw [e]; exact hk) h1
   | false =>
     simp only []
     obtain ⟨rfl, hb⟩ := h
     rcases hb with hb | hb
     · rw [f00 hb] at hk; exact hk
     · rw [n08 hb] at hk; exact hk
theorem d0p {P : Program} {Shp an o g ev blk V V' s ob} (hV : View.le V V') (h : EA P Shp an o g ev blk V s ob) : EA P Shp an o g ev blk V' s ob := by
 cases g with
 | none => exact h
 | some g => cases g with
   | true => exact n0n hV h
   | false => exact h
theorem J08 {P : Program} {Shp an o g ev ev' blk V s ob} (hev : ∀ x ∈ o.op.operands, ev x = ev' x) (h : EA P Shp an o g ev blk V s ob) : EA P Shp an o g ev' blk V s ob := by
 cases g with
 | none => exact h
 | some g => cases g with
   | true => exact c0l hev h
   | false => exact h
theorem K0h {P : Program} {Shp an o g ev blk V s ob} (hw : wrA an = false) (h : EA P Shp an o g ev blk V s ob) : blk = some ob ∨ blk = none := by
 cases g with
 | none => exact h.elim
 | some g => cases g with
   | false => exact h.2
   | true =>
     cases blk with
     | none => exact .inr rfl
     | some b =>
       have h3 : an.fl ≠ 3 := by intro e; simp [wrA, e] at hw
       have h6 : an.fl ≠ 6 := by intro e; simp [wrA, e] at hw
       have h16 : an.fl ≠ 16 := by intro e; simp [wrA, e] at hw
       have h23 : an.fl ≠ 23 := by intro e; simp [wrA, e] at hw
       obtain ⟨s0, ob0, ⟨rfl, _, rfl⟩, _⟩ := s0m (o0n h3 h6 h16 h23 h)
       exact .inl rfl
theorem o08 {σ : St} {r r' : Nat} {ob : Option OB} (h : r ≠ r') : (σ.setOwn r ob).own[r']? = σ.own[r']? := by
 simp [St.setOwn, List.getElem?_set_ne h]
theorem Y08 {σ : St} {d : Option Tmp} {s : SV} : (σ.put d s).own = σ.own := by cases d <;> rfl
theorem m09 {σ : St} {d : Option Tmp} {s : SV} {x : Operand} (h : ∀ t, d = some t → x ≠ .tmp t) : (σ.put d s).ev x = σ.ev x := by
 cases d with
 | none => rfl
 | some t =>
   cases x with
   | tmp u =>
     have hne : t ≠ u := fun e => h t rfl (e ▸ rfl)
     simp [St.ev, St.put, List.getD, List.getElem?_set_ne hne]
   | const v => rfl
   | global g => rfl
   | func f => rfl
theorem t07 {σ : St} {r : Nat} {ob : Option OB} {x : Operand} : (σ.setOwn r ob).ev x = σ.ev x := by cases x <;> rfl
theorem b03 {ops : Array Oper} {o : Oper} {σ : St} {d : Option Tmp} {s : SV} (h : ∀ t, d = some t → t ∉ o.looksAt ops) : k02 ops o (σ.put d s) = k02 ops o σ := by
 unfold k02
 cases hg : o.guard with
 | none => rfl
 | some g =>
   obtain ⟨j, want⟩ := g
   simp only []
   cases ht : (ops[j]?).bind (·.dst) with
   | none => rfl
   | some t =>
     simp only []
     cases d with
     | none => rfl
     | some u =>
       have hne : u ≠ t := by
        rintro rfl
        refine h u rfl ?_
        simp [Oper.looksAt, hg, ht]
       have : (σ.put (some u) s).tm.getD t .any = σ.tm.getD t .any := by simp [St.put, List.getD, List.getElem?_set_ne hne]
       rw [this]
theorem Y03 {ops : Array Oper} {o : Oper} {σ : St} {r : Nat} {ob : Option OB} : k02 ops o (σ.setOwn r ob) = k02 ops o σ := rfl
theorem m02 {ops : Array Oper} {o : Oper} {d : Option Tmp} (h : ∀ t, d = some t → t ∉ o.looksAt ops) : ∀ x ∈ o.op.operands, ∀ t, d = some t → x ≠ .tmp t := by
 intro x hx t ht e
 refine h t ht ?_
 subst e
 simp only [Oper.looksAt, List.mem_append, List.mem_filterMap]
 exact .inl ⟨.tmp t, by simpa using hx, rfl⟩
theorem i03 {σ : St} {d d' : Option Tmp} {s s' : SV} (h : ∀ t, d = some t → d' ≠ some t) : (σ.put d s).put d' s' = (σ.put d' s').put d s := by
 cases d with
 | none => rfl
 | some t => cases d' with
   | none => rfl
   | some t' =>
     have hne : t ≠ t' := fun e => h t rfl (by rw [e])
     simp only [St.put]
     congr 1
     exact List.set_comm _ _ hne
theorem L04 {σ : St} {r : Nat} {ob : Option OB} {d : Option Tmp} {s : SV} : (σ.put d s).setOwn r ob = (σ.setOwn r ob).put d s := by cases d <;> rfl
theorem N09 {σ : St} {r r' : Nat} {ob ob' : Option OB} (h : r ≠ r') : (σ.setOwn r ob).setOwn r' ob' = (σ.setOwn r' ob').setOwn r ob := by
 simp only [St.setOwn]
 congr 1
 exact List.set_comm _ _ h
def b0f (o : Oper) (an : An) : Bool :=
 match an.fl, an.sp, o.op with
 | 7, false, .fieldAddr _ _ _ => true
 | 7, false, .indexAddr _ _ _ => true
 | 5, false, .load _ _ => true
 | 2, false, .move _ => true
 | 2, false, .assign _ => true
 | _, _, _ => false
def n0j (ops : Array Oper) (y x : Oper × An) : Bool :=
 Oper.apart ops x.1 y.1 &&
 match clsA y.2, clsA x.2 with
 | 0, 0 => !(Nat.beq y.2.rt x.2.rt) || (!wrA y.2 && !wrA x.2)
 | 0, 1 => true
 | 1, 1 => true
 | 2, 1 => true
 | 0, 2 => true
 | 0, 4 => true
 | 0, 5 => b0f y.1 y.2 && !(Nat.beq y.2.rt x.2.rt)
 | 0, 6 => !(Nat.beq y.2.rt x.2.rt)
 | _, _ => false
section swap
variable {P : Program} {Shp : X03} {ops : Array Oper} {oy ox : Oper} {ay ax : An} {σ : St} {V : View} {K : St → View → Prop}
theorem A0s (hap : ox.apart ops oy = true) (hy : clsA ay = 0) (hx : clsA ax = 0) (hrt : ay.rt ≠ ax.rt ∨ (wrA ay = false ∧ wrA ax = false))
 (h : b04 P Shp ops ay oy σ V fun σ1 V1 => b04 P Shp ops ax ox σ1 V1 K) : b04 P Shp ops ax ox σ V fun σ1 V1 => b04 P Shp ops ay oy σ1 V1 K := by
 obtain ⟨hdx, hdd, hdy⟩ := Oper.apart_spec hap
 obtain ⟨sy, oby, hEy, h⟩ := m0j hy h
 obtain ⟨sx, obx, hEx, h⟩ := m0j hx h
 -- x at the start
 rw [b03 hdy, Y03, Y08] at hEx
 have hEx : EA P Shp ax ox (k02 ops ox σ) σ.ev (σ.setOwn ay.rt oby).own[ax.rt]? V sx obx :=
  J08 (fun x hx => by rw [m09 (m02 hdy x hx), t07]) hEx
 have hown : (σ.setOwn ay.rt oby).own[ax.rt]? = σ.own[ax.rt]? := by
  rcases hrt with h1 | ⟨h1, h2⟩
  · exact o08 h1
  · rcases K0h h1 hEy with e | e
    · rw [f00 e]
    · rw [n08 e]
 rw [hown] at hEx
 refine M0a hx hEx (M0a hy (s := sy) (ob := oby) ?_ ?_)
 · rw [b03 hdx, Y03, Y08]
   have hown' : (σ.setOwn ax.rt obx).own[ay.rt]? = σ.own[ay.rt]? := by
    rcases hrt with h1 | ⟨h1, h2⟩
    · exact o08 (fun e => h1 e.symm)
    · rcases K0h h2 hEx with e | e
      · rw [f00 e]
      · rw [n08 e]
   rw [hown']
   exact J08 (fun x hx => by rw [m09 (m02 hdx x hx), t07]) hEy
 · have e : (((σ.setOwn ax.rt obx).put ox.dst sx).setOwn ay.rt oby).put oy.dst sy = (((σ.setOwn ay.rt oby).put oy.dst sy).setOwn ax.rt obx).put ox.dst sx := by
     rw [L04, L04, i03 hdd]
     congr 2
     rcases hrt with h1 | ⟨h1, h2⟩
     · exact N09 (fun e => h1 e.symm)
     · have ey := K0h h1 hEy
       have ex := K0h h2 hEx
       have : ∀ {r : Nat} {b : Option OB} {τ : St}, (τ.own[r]? = some b ∨ τ.own[r]? = none) → τ.setOwn r b = τ := by
        intro r b τ hh; rcases hh with hh | hh
        · exact f00 hh
        · exact n08 hh
       rw [this ex, this ey, this ex]
   rw [e]; exact h
theorem c0f {o : Oper} {σ σ' : St} {K K' : St → View → Prop} (hev : ∀ x ∈ o.op.operands, σ.ev x = σ'.ev x)
 (hk : ∀ s V', V.le V' → V'.Fin → K (σ.put o.dst s) V' → K' (σ'.put o.dst s) V') (h : U0b P o σ V K) : U0b P o σ' V K' := by
 revert h; unfold U0b
 rw [s07 hev]
 split
 · intro h b V' hle hfin hb; exact hk _ _ hle hfin (h b V' hle hfin hb)
 · exact id
theorem n09 {ts : List TypeId} {v : Value} {k k' : SV → Prop} (hk : ∀ s, k s → k' s) (h : resT Shp ts v k) : resT Shp ts v k' := by
 revert h; unfold resT
 split
 · rintro ⟨h1, h2⟩; exact ⟨h1, hk _ h2⟩
 · rintro ⟨x, h1, h2⟩; exact ⟨x, h1, hk _ h2⟩
 · rintro ⟨x, y, h1, h2⟩; exact ⟨x, y, h1, hk _ h2⟩
 · rintro ⟨x, y, z, h1, h2⟩; exact ⟨x, y, z, h1, hk _ h2⟩
 · rintro ⟨x, y, z, q, h1, h2⟩; exact ⟨x, y, z, q, h1, hk _ h2⟩
 · exact id
theorem t0c {o : Oper} {ev ev' : Operand → SV} (hev : ∀ x ∈ o.op.operands, ev x = ev' x) : H0h P o ev = H0h P o ev' := by
 unfold H0h
 split
 · rename_i c hop
   split
   · rename_i fo hcal
     rw [hev fo (by simp [hop, Op.operands, Call.operands, hcal])]
     rw [X07 (ev := ev) (ev' := ev') (l := c.args.toList) (fun x hx => hev x (by simp at hx; simp [hop, Op.operands, Call.operands, hx]))]
   · rename_i r name hcal
     rw [hev r (by simp [hop, Op.operands, Call.operands, hcal])]
     rw [X07 (ev := ev) (ev' := ev') (l := c.args.toList) (fun x hx => hev x (by simp at hx; simp [hop, Op.operands, Call.operands, hx]))]
   · rfl
 · rfl
theorem Y0g {sp : Bool} {o : Oper} {σ σ' : St} {K K' : St → View → Prop} (hev : ∀ x ∈ o.op.operands, σ.ev x = σ'.ev x)
 (hk : ∀ s V', V.le V' → V'.Fin → K (σ.put o.dst s) V' → K' (σ'.put o.dst s) V') (h : c0g P Shp sp o σ V K) : c0g P Shp sp o σ' V K' := by
 revert h; unfold c0g
 rw [t0c hev]
 split
 · intro h
   exact h.mono' fun v V' hle hfin hr => n09 (fun s hs => I08 (fun s' hs' => hk s' V' hle hfin hs') hs) hr
 · exact id
theorem n0m {f : FuncId} {args : Array Value} {V V' : View} {R : Value → View → Prop} (hle : V.le V') (h : a00 P f args V R) :
 a00 P f args V' fun v V2 => ∃ V1, View.le V1 V2 ∧ View.le V V1 ∧ R v V1 := by
 intro w hw
 refine (h w (a0j hle hw)).mono fun e w' ⟨v, V1, he, hl1, hin1, hf1, hb, hr⟩ => ?_
 let V2 : View := fun i => match V' i with | some cs => some cs | none => V1 i
 have hinV' : V'.In w' := by
  intro b cs hb'
  obtain ⟨T, fr, hwb⟩ := hw b cs hb'
  refine ⟨T, fr, ?_⟩
  rw [hb.block b (by
   rcases Nat.lt_or_ge b w.heap.size with h | h
   · exact h
   · rw [Array.getElem?_eq_none h] at hwb; simp at hwb)]
  exact hwb
 refine ⟨v, V2, he, ?_, ?_, ?_, hb, V1, ?_, hl1, hr⟩
 · intro b cs hb'; simp [V2, hb']
 · intro b cs hb'
   simp only [V2] at hb'
   split at hb'
   · rename_i ds hd; cases hb'; exact hinV' b _ hd
   · exact hin1 b cs hb'
 · intro b cs hb'
   simp only [V2] at hb'
   split at hb'
   · rename_i ds hd; cases hb'; exact .inl hd
   · rename_i hd
     rcases hf1 b cs hb' with h1 | h1
     · rw [hle b cs h1] at hd; simp at hd
     · exact .inr h1
 · intro b cs hb'
   simp only [V2]
   split
   · rename_i ds hd
     obtain ⟨T, fr, h1⟩ := hinV' b ds hd
     obtain ⟨T', fr', h2⟩ := hin1 b cs hb'
     rw [h1] at h2; simp at h2; simp [h2.1]
   · exact hb'
theorem i08 {an : An} {o : Oper} (h : b04 P Shp ops an o σ V K) :
 (k02 ops o σ = some true ∧ actT P Shp an o σ V K) ∨ (k02 ops o σ = some false ∧ K (σ.put o.dst (.val undef)) V) := by
 unfold b04 at h
 split at h
 · rename_i hg; exact .inl ⟨hg, h⟩
 · rename_i hg; exact .inr ⟨hg, h⟩
 · exact h.elim
theorem O09 {an : An} {o : Oper} (hg : k02 ops o σ = some true) (h : actT P Shp an o σ V K) : b04 P Shp ops an o σ V K := by unfold b04; rw [hg]; exact h
theorem s06 {an : An} {o : Oper} (hg : k02 ops o σ = some false) (h : K (σ.put o.dst (.val undef)) V) : b04 P Shp ops an o σ V K := by unfold b04; rw [hg]; exact h
theorem N0c {an : An} {o : Oper} (hcl : clsA an = 1) : actT P Shp an o σ V K = U0b P o σ V K := by
 unfold actT
 split
 all_goals first
  | rfl
  | (rename_i h; simp [clsA, h] at hcl; done)
  | (simp [clsA] at hcl; split at hcl <;> simp_all)
theorem J0e {an : An} {o : Oper} (hcl : clsA an = 2) : actT P Shp an o σ V K = c0g P Shp an.sp o σ V K := by
 unfold actT
 split
 all_goals first
  | rfl
  | (rename_i h; simp [clsA, h] at hcl; done)
  | (simp [clsA] at hcl; split at hcl <;> simp_all)
theorem O0r {an : An} {o : Oper} (hcl : clsA an = 5) : actT P Shp an o σ V K = appT P an.rt o σ V K := by
 unfold actT
 split
 all_goals first
  | rfl
  | (rename_i h; simp [clsA, h] at hcl; done)
  | (simp [clsA] at hcl; split at hcl <;> simp_all)
theorem e0p {an : An} {o : Oper} (hcl : clsA an = 4) : (∀ σ V K, actT P Shp an o σ V K = M09 P o σ V K) ∨ (∀ σ V K, actT P Shp an o σ V K = W0k P o σ V K) := by
 have h : an.fl = 15 ∨ an.fl = 17 := by
  simp [clsA] at hcl; split at hcl <;> simp_all
 rcases h with h | h
 · exact .inl fun σ V K => by unfold actT; rw [h]; rfl
 · exact .inr fun σ V K => by unfold actT; rw [h]; rfl
theorem P09 {o : Oper} {x y : Operand} {e : TypeId} {sz bs : Nat} (h : appQ P o = some (x, y, e, sz, bs)) : x ∈ o.op.operands ∧ y ∈ o.op.operands := by
 obtain ⟨t, i, z, hop, _⟩ := M0c h
 simp [hop, Op.operands, Call.operands]
theorem O0c {o : Oper} {σ σ' : St} {K K' : St → View → Prop} (hev : ∀ x ∈ o.op.operands, σ.ev x = σ'.ev x)
 (hk : ∀ s V', V.le V' → V'.Fin → K (σ.put o.dst s) V' → K' (σ'.put o.dst s) V') (h : M09 P o σ V K) : M09 P o σ' V K' := by
 revert h; unfold M09
 split
 · rename_i x y e sz bs hq
   obtain ⟨h1, h2⟩ := P09 hq
   rw [hev x h1, hev y h2]
   split
   · rintro ⟨e0, xs, vs, a1, a2, a3, a4, a5, a6, h⟩
     exact ⟨e0, xs, vs, a1, a2, a3, a4, a5, a6, fun ra rc V' b1 b2 b3 b4 b5 => hk _ V' b1 b2 (h ra rc V' b1 b2 b3 b4 b5)⟩
   · exact id
 · exact id
theorem Z0g {o : Oper} {σ σ' : St} {K K' : St → View → Prop} (hev : ∀ x ∈ o.op.operands, σ.ev x = σ'.ev x)
 (hk : ∀ s V', V.le V' → V'.Fin → K (σ.put o.dst s) V' → K' (σ'.put o.dst s) V') (h : W0k P o σ V K) : W0k P o σ' V K' := by
 revert h; unfold W0k
 split
 · rename_i t n c hop
   rw [hev n (by simp [hop, Op.operands]), hev c (by simp [hop, Op.operands])]
   split
   · split
     · rintro ⟨h1, h⟩
       refine ⟨h1, ?_⟩
       revert h
       split
       · intro h b V' b1 b2 b3; exact hk _ V' b1 b2 (h b V' b1 b2 b3)
       · exact id
     · exact id
   · exact id
 · exact id
theorem d0l {an : An} (hcl : clsA an = 4) {o : Oper} {σ σ' : St} {K K' : St → View → Prop} (hev : ∀ x ∈ o.op.operands, σ.ev x = σ'.ev x)
 (hk : ∀ s V', V.le V' → V'.Fin → K (σ.put o.dst s) V' → K' (σ'.put o.dst s) V') (h : actT P Shp an o σ V K) : actT P Shp an o σ' V K' := by
 rcases e0p (P := P) (Shp := Shp) (o := o) hcl with e | e
 · rw [e] at h ⊢; exact O0c hev hk h
 · rw [e] at h ⊢; exact Z0g hev hk h
theorem e0l {σ : St} {id : Nat} (x : Operand) : (σ.kill id).ev x = d05 id (σ.ev x) := by
 cases x with
 | tmp t =>
   simp only [St.ev, St.kill, List.getD, List.getElem?_map]
   cases σ.tm[t]? <;> rfl
 | const v => rfl
 | global g => rfl
 | func f => rfl
theorem Y0d {ops : Array Oper} {o : Oper} {σ : St} {id : Nat} : k02 ops o (σ.kill id) = k02 ops o σ := by
 unfold k02
 cases o.guard with
 | none => rfl
 | some g =>
   obtain ⟨j, want⟩ := g
   simp only []
   cases (ops[j]?).bind (·.dst) with
   | none => rfl
   | some t =>
     simp only []
     have : (σ.kill id).tm.getD t .any = d05 id (σ.tm.getD t .any) := e0l (.tmp t)
     rw [this]
     cases σ.tm.getD t .any with
     | lst i n c => by_cases e : i = id <;> simp [d05, e]
     | les i n c => by_cases e : i = id <;> simp [d05, e]
     | tlst i n c r => by_cases e : i = id <;> simp [d05, e]
     | _ => rfl
theorem u0m {σ : St} {id r : Nat} : (σ.kill id).own[r]? = (σ.own[r]?).map (K0c id) := by simp [St.kill]
theorem w0m {σ : St} {id : Nat} {d : Option Tmp} {s : SV} : (σ.put d s).kill id = (σ.kill id).put d (d05 id s) := by
 cases d with
 | none => rfl
 | some t => simp [St.put, St.kill, List.map_set]
theorem d0f {σ : St} {id r : Nat} {ob : Option OB} : (σ.setOwn r ob).kill id = (σ.kill id).setOwn r (K0c id ob) := by simp [St.setOwn, St.kill, List.map_set]
theorem f0p {id : Nat} {an : An} {o : Oper} {g : Option Bool} {ev : Operand → SV} {blk : Option (Option OB)} {s : SV} {ob : Option OB} (hb : b0f o an = true) (h : EA P Shp an o g ev blk V s ob) :
 EA P Shp an o g (fun x => d05 id (ev x)) (blk.map (K0c id)) V (d05 id s) (K0c id ob) := by
 cases g with
 | none => exact h
 | some g =>
   cases g with
   | false =>
     obtain ⟨rfl, h⟩ := h
     refine ⟨rfl, ?_⟩
     rcases h with rfl | rfl
     · exact .inl rfl
     · exact .inr rfl
   | true =>
     simp only [EA] at h ⊢
     unfold b0f at hb
     split at hb
     · rename_i hfl hsp hop
       unfold L07 at h ⊢
       rw [hfl] at h ⊢
       cases blk with
       | none => simp [a04, hop] at h
       | some b =>
         simp only [a04, hop, hsp, fin, Option.map_some] at h ⊢
         split at h
         · rename_i he hq
           rw [he]
           simp only [d05, hq]
           obtain ⟨rfl, rfl⟩ := h
           exact ⟨rfl, rfl⟩
         · rename_i he hq
           rw [he]
           simp only [d05, hq]
           obtain ⟨hpa, rfl, rfl⟩ := h
           exact ⟨hpa, rfl, rfl⟩
         · exact h.elim
     · rename_i hfl hsp hop
       unfold L07 at h ⊢
       rw [hfl] at h ⊢
       cases blk with
       | none => simp [a04, hop] at h
       | some b =>
         simp only [a04, hop, hsp, fin, Option.map_some] at h ⊢
         split at h
         · rename_i he hi
           rw [he, hi]
           simp only [d05]
           split at h
           · rename_i hE
             split at h
             · rename_i hZ
               obtain ⟨h1, rfl, rfl⟩ := h
               exact ⟨h1, rfl, rfl⟩
             · exact h.elim
           · exact h.elim
         · rename_i he hi
           rw [he, hi]
           simp only [d05]
           split at h
           · rename_i hE
             split at h
             · rename_i hZ
               obtain ⟨h1, rfl, rfl⟩ := h
               exact ⟨h1, rfl, rfl⟩
             · exact h.elim
           · exact h.elim
         · rename_i he hi
           rw [he, hi]
           simp only [d05]
           split at h
           · rename_i hE
             split at h
             · rename_i hZ
               obtain ⟨h1, rfl, rfl⟩ := h
               exact ⟨h1, rfl, rfl⟩
             · exact h.elim
           · exact h.elim
         · exact h.elim
     · rename_i hfl hsp hop
       unfold L07 at h ⊢
       rw [hfl] at h ⊢
       cases blk with
       | none => simp [n06, hop] at h
       | some b =>
         simp only [n06, hop, hsp, fin, Option.map_some] at h ⊢
         split at h
         · rename_i he
           rw [he]
           simp only [d05]
           split at h
           · rename_i hA hZ
             obtain ⟨x, h1, h2, h⟩ := h
             refine ⟨x, h1, h2, ?_⟩
             split at h
             · rename_i hv
               split at h
               · rename_i hq
                 obtain ⟨rfl, rfl⟩ := h
                 exact ⟨rfl, rfl⟩
               · exact h.elim
             · exact h.elim
           · rename_i hA
             obtain ⟨x, h1, rfl, rfl⟩ := h
             exact ⟨x, h1, rfl, rfl⟩
           · exact h.elim
         · exact h.elim
     · rename_i hfl hsp hop
       unfold L07 at h ⊢
       rw [hfl] at h ⊢
       simp only [B05, hop, hsp, fin] at h ⊢
       cases blk with
       | none => exact h.elim
       | some b => obtain ⟨rfl, rfl⟩ := h; exact ⟨rfl, rfl⟩
     · rename_i hfl hsp hop
       unfold L07 at h ⊢
       rw [hfl] at h ⊢
       simp only [B05, hop, hsp, fin] at h ⊢
       cases blk with
       | none => exact h.elim
       | some b => obtain ⟨rfl, rfl⟩ := h; exact ⟨rfl, rfl⟩
     · simp at hb
theorem B0s (hap : ox.apart ops oy = true) (hb : b0f oy ay = true) (hx : clsA ax = 5) (hrt : ay.rt ≠ ax.rt)
 (h : b04 P Shp ops ay oy σ V fun σ1 V1 => b04 P Shp ops ax ox σ1 V1 K) : b04 P Shp ops ax ox σ V fun σ1 V1 => b04 P Shp ops ay oy σ1 V1 K := by
 have hy : clsA ay = 0 := by
  unfold b0f at hb; unfold clsA
  split at hb
  · rename_i h _ _; rw [h]; rfl
  · rename_i h _ _; rw [h]; rfl
  · rename_i h _ _; rw [h]; rfl
  · rename_i h _ _; rw [h]; rfl
  · rename_i h _ _; rw [h]; rfl
  · simp at hb
 obtain ⟨hdx, hdd, hdy⟩ := Oper.apart_spec hap
 obtain ⟨sy, oby, hEy, h⟩ := m0j hy h
 have hev : ∀ x ∈ ox.op.operands, ((σ.setOwn ay.rt oby).put oy.dst sy).ev x = σ.ev x := fun x hx => by rw [m09 (m02 hdy x hx), t07]
 have hg : k02 ops ox ((σ.setOwn ay.rt oby).put oy.dst sy) = k02 ops ox σ := by rw [b03 hdy, Y03]
 rcases i08 h with ⟨g, h⟩ | ⟨g, h⟩
 · rw [hg] at g
   refine O09 g ?_
   rw [O0r hx] at h ⊢
   unfold appT at h ⊢
   split at h
   · rename_i x y e sz bs hq
     obtain ⟨m1, m2⟩ := P09 hq
     rw [hev x m1, hev y m2, Y08, o08 hrt] at h
     revert h
     split
     · split
       · rintro ⟨xs, vs, a1, a2, a3, a4, a5, a6, h⟩
         refine ⟨xs, vs, a1, a2, a3, a4, a5, a6, fun cap' l' hok => ?_⟩
         have hk := h cap' l' hok
         refine M0a hy (s := d05 ax.rt sy) (ob := K0c ax.rt oby) ?_ ?_
         · rw [b03 hdx, Y03, Y0d, Y08, o08 (fun e => hrt e.symm), u0m]
           refine J08 (fun x hx => ?_) (f0p hb hEy)
           rw [m09 (m02 hdx x hx), t07, e0l]
         · have e1 : ∀ (X : SV) (L : Option OB), ((((σ.kill ax.rt).setOwn ax.rt L).put ox.dst X).setOwn ay.rt (K0c ax.rt oby)).put oy.dst (d05 ax.rt sy) =
               ((((σ.setOwn ay.rt oby).put oy.dst sy).kill ax.rt).setOwn ax.rt L).put ox.dst X := by
             intro X L
             rw [w0m, d0f, L04 (σ := (σ.kill ax.rt).setOwn ax.rt L), L04 (σ := (σ.kill ax.rt).setOwn ay.rt (K0c ax.rt oby)), i03 hdd, N09 hrt]
           rw [e1]; exact hk
       · exact fun h => h.elim
     · split
       · rintro ⟨xs, vs, a1, a2, a3, a4, a5, a6, h⟩
         refine ⟨xs, vs, a1, a2, a3, a4, a5, a6, fun cap' l' hok => ?_⟩
         have hk := h cap' l' hok
         refine M0a hy (s := d05 ax.rt sy) (ob := K0c ax.rt oby) ?_ ?_
         · rw [b03 hdx, Y03, Y0d, Y08, o08 (fun e => hrt e.symm), u0m]
           refine J08 (fun x hx => ?_) (f0p hb hEy)
           rw [m09 (m02 hdx x hx), t07, e0l]
         · have e1 : ∀ (X : SV) (L : Option OB), ((((σ.kill ax.rt).setOwn ax.rt L).put ox.dst X).setOwn ay.rt (K0c ax.rt oby)).put oy.dst (d05 ax.rt sy) =
               ((((σ.setOwn ay.rt oby).put oy.dst sy).kill ax.rt).setOwn ax.rt L).put ox.dst X := by
             intro X L
             rw [w0m, d0f, L04 (σ := (σ.kill ax.rt).setOwn ax.rt L), L04 (σ := (σ.kill ax.rt).setOwn ay.rt (K0c ax.rt oby)), i03 hdd, N09 hrt]
           rw [e1]; exact hk
       · exact fun h => h.elim
     · exact fun h => h.elim
   · exact h.elim
 · rw [hg] at g
   refine s06 g (M0a hy (s := sy) (ob := oby) ?_ ?_)
   · rw [b03 hdx, Y08]
     exact J08 (fun x hx => by rw [m09 (m02 hdx x hx)]) hEy
   · rw [L04, i03 hdd]; exact h
theorem w0n {an : An} (hcl : clsA an = 6) : (∀ o σ V K, actT P Shp an o σ V K = W0b P Shp an.sp an.rt o σ V K) ∨ (∀ o σ V K, actT P Shp an o σ V K = d0g P an.rt o σ V K) := by
 have h : an.fl = 24 ∨ an.fl = 25 := by
  simp [clsA] at hcl; split at hcl <;> simp_all
 rcases h with h | h
 · exact .inl fun o σ V K => by unfold actT; rw [h]; rfl
 · exact .inr fun o σ V K => by unfold actT; rw [h]; rfl
theorem f0l {sp : Bool} {rt : Nat} {o : Oper} {σ σ' : St} {K K' : St → View → Prop} (hev : ∀ x ∈ o.op.operands, σ.ev x = σ'.ev x) (hown : σ.own[rt]? = σ'.own[rt]?)
 (hk : ∀ L s V', V.le V' → V'.Fin → K ((σ.setOwn rt L).put o.dst s) V' → K' ((σ'.setOwn rt L).put o.dst s) V') (h : W0b P Shp sp rt o σ V K) : W0b P Shp sp rt o σ' V K' := by
 revert h; unfold W0b
 rw [t0c hev, hown]
 split
 · intro h; exact h.mono fun v m' V' hle hfin r => n09 (fun s => I08 fun s => hk _ s V' hle hfin) r
 · exact id
theorem x0n {rt : Nat} {o : Oper} {σ σ' : St} {K K' : St → View → Prop} (hev : ∀ x ∈ o.op.operands, σ.ev x = σ'.ev x) (hown : σ.own[rt]? = σ'.own[rt]?)
 (hk : ∀ L s, K ((σ.setOwn rt L).put o.dst s) V → K' ((σ'.setOwn rt L).put o.dst s) V) (h : d0g P rt o σ V K) : d0g P rt o σ' V K' := by
 revert h; unfold d0g
 rw [hown]
 split
 · rename_i x y e sz bs ty m hq hm
   obtain ⟨h1, h2⟩ := P09 hq
   rw [hev x h1, hev y h2]
   split
   · rintro ⟨xs, vs, a1, a2, a3, a4, a5, a6, a7, a8, h3, h4⟩
     exact ⟨xs, vs, a1, a2, a3, a4, a5, a6, a7, a8, h3, fun ra rc m' g => hk _ _ (h4 ra rc m' g)⟩
   · exact id
 · exact id
theorem C0s (hap : ox.apart ops oy = true) (hy : clsA ay = 0) (hx : clsA ax = 6) (hrt : ay.rt ≠ ax.rt)
 (h : b04 P Shp ops ay oy σ V fun σ1 V1 => b04 P Shp ops ax ox σ1 V1 K) : b04 P Shp ops ax ox σ V fun σ1 V1 => b04 P Shp ops ay oy σ1 V1 K := by
 obtain ⟨hdx, hdd, hdy⟩ := Oper.apart_spec hap
 obtain ⟨sy, oby, hEy, h⟩ := m0j hy h
 have hfin : ∀ L s V', V.le V' → K ((((σ.setOwn ay.rt oby).put oy.dst sy).setOwn ax.rt L).put ox.dst s) V' → b04 P Shp ops ay oy ((σ.setOwn ax.rt L).put ox.dst s) V' K := by
  intro L s V' hle hk
  refine M0a hy (s := sy) (ob := oby) ?_ ?_
  · rw [b03 hdx, Y03, Y08, o08 (fun e => hrt e.symm)]
    exact d0p hle (J08 (fun x hx => by rw [m09 (m02 hdx x hx), t07]) hEy)
  · have e1 : (((σ.setOwn ax.rt L).put ox.dst s).setOwn ay.rt oby).put oy.dst sy = (((σ.setOwn ay.rt oby).put oy.dst sy).setOwn ax.rt L).put ox.dst s := by
      rw [L04 (σ := σ.setOwn ax.rt L), L04 (σ := σ.setOwn ay.rt oby), i03 hdd, N09 hrt]
    rw [e1]; exact hk
 have hev : ∀ x ∈ ox.op.operands, ((σ.setOwn ay.rt oby).put oy.dst sy).ev x = σ.ev x := fun x hx => by rw [m09 (m02 hdy x hx), t07]
 have hown : ((σ.setOwn ay.rt oby).put oy.dst sy).own[ax.rt]? = σ.own[ax.rt]? := by rw [Y08, o08 hrt]
 have hg : k02 ops ox ((σ.setOwn ay.rt oby).put oy.dst sy) = k02 ops ox σ := by rw [b03 hdy, Y03]
 rcases i08 h with ⟨g, h⟩ | ⟨g, h⟩
 · rw [hg] at g
   refine O09 g ?_
   rcases w0n (P := P) (Shp := Shp) hx with hx | hx
   · rw [hx] at h ⊢; exact f0l hev hown (fun L s V' hle _ => hfin L s V' hle) h
   · rw [hx] at h ⊢; exact x0n hev hown (fun L s => hfin L s V (View.le_refl V)) h
 · rw [hg] at g
   refine s06 g (M0a hy (s := sy) (ob := oby) ?_ ?_)
   · rw [b03 hdx, Y08]
     exact J08 (fun x hx => by rw [m09 (m02 hdx x hx)]) hEy
   · rw [L04, i03 hdd]; exact h
theorem g0p (hap : ox.apart ops oy = true) (hy : clsA ay = 0) (hx : clsA ax = 1 ∨ clsA ax = 2 ∨ clsA ax = 4)
 (h : b04 P Shp ops ay oy σ V fun σ1 V1 => b04 P Shp ops ax ox σ1 V1 K) : b04 P Shp ops ax ox σ V fun σ1 V1 => b04 P Shp ops ay oy σ1 V1 K := by
 obtain ⟨hdx, hdd, hdy⟩ := Oper.apart_spec hap
 obtain ⟨sy, oby, hEy, h⟩ := m0j hy h
 have hfin : ∀ s V', V.le V' → K (((σ.setOwn ay.rt oby).put oy.dst sy).put ox.dst s) V' → b04 P Shp ops ay oy (σ.put ox.dst s) V' K := by
  intro s V' hle hk
  refine M0a hy (s := sy) (ob := oby) ?_ ?_
  · rw [b03 hdx, Y08]
    exact d0p hle (J08 (fun x hx => by rw [m09 (m02 hdx x hx)]) hEy)
  · rw [L04, i03 hdd]; exact hk
 have hev : ∀ x ∈ ox.op.operands, ((σ.setOwn ay.rt oby).put oy.dst sy).ev x = σ.ev x := fun x hx => by rw [m09 (m02 hdy x hx), t07]
 have hg : k02 ops ox ((σ.setOwn ay.rt oby).put oy.dst sy) = k02 ops ox σ := by rw [b03 hdy, Y03]
 rcases i08 h with ⟨g, h⟩ | ⟨g, h⟩
 · rw [hg] at g
   refine O09 g ?_
   rcases hx with hx | hx | hx
   · rw [N0c hx] at h ⊢; exact c0f hev (fun s V' hle _ => hfin s V' hle) h
   · rw [J0e hx] at h ⊢; exact Y0g hev (fun s V' hle _ => hfin s V' hle) h
   · exact d0l hx hev (fun s V' hle _ => hfin s V' hle) h
 · rw [hg] at g
   exact s06 g (hfin _ V (View.le_refl V) h)
theorem e0f {an : An} {o : Oper} (hcl : clsA an = 1) {σ' : St} (hg : k02 ops o σ' = k02 ops o σ) (hev : ∀ x ∈ o.op.operands, σ'.ev x = σ.ev x) (h : b04 P Shp ops an o σ' V K) :
 (k02 ops o σ = some true ∧ ∃ cells n, G0c P o σ.ev = some (cells, n) ∧ ∀ (b : Nat) (V' : View), V.le V' → V'.Fin → V' b = some cells → K (σ'.put o.dst (.val (.slice (some ⟨b, 0, none⟩) n n))) V') ∨
 (k02 ops o σ = some false ∧ K (σ'.put o.dst (.val undef)) V) := by
 rcases i08 h with ⟨g, h⟩ | ⟨g, h⟩
 · rw [hg] at g
   rw [N0c hcl] at h
   unfold U0b at h
   rw [s07 hev] at h
   split at h
   · rename_i cells n hC; exact .inl ⟨g, cells, n, hC, h⟩
   · exact h.elim
 · rw [hg] at g
   exact .inr ⟨g, h⟩
theorem p08 {an : An} {o : Oper} (hcl : clsA an = 1) (hg : k02 ops o σ = some true) {cells : Array Value} {n : Nat} (hC : G0c P o σ.ev = some (cells, n))
 (h : ∀ (b : Nat) (V' : View), V.le V' → V'.Fin → V' b = some cells → K (σ.put o.dst (.val (.slice (some ⟨b, 0, none⟩) n n))) V') : b04 P Shp ops an o σ V K := by
 refine O09 hg ?_
 rw [N0c hcl]
 unfold U0b
 rw [hC]
 exact h
theorem View.Fin.more {V : View} (h : V.Fin) (cells : Array Value) : ∃ b V', View.le V V' ∧ V'.Fin ∧ V' b = some cells := by
 obtain ⟨n, hn⟩ := h
 refine ⟨n, fun i => if i = n then some cells else V i, D08 (hn n (Nat.le_refl n)), ⟨n + 1, fun b hb => ?_⟩, by simp⟩
 have : b ≠ n := by omega
 simp [this, hn b (by omega)]
theorem x0r (hV : V.Fin) (hap : ox.apart ops oy = true) (hy : clsA ay = 1 ∨ clsA ay = 2) (hx : clsA ax = 1)
 (h : b04 P Shp ops ay oy σ V fun σ1 V1 => b04 P Shp ops ax ox σ1 V1 K) : b04 P Shp ops ax ox σ V fun σ1 V1 => b04 P Shp ops ay oy σ1 V1 K := by
 obtain ⟨hdx, hdd, hdy⟩ := Oper.apart_spec hap
 have evx : ∀ s, ∀ x ∈ ox.op.operands, (σ.put oy.dst s).ev x = σ.ev x := fun s x hx => m09 (m02 hdy x hx)
 have evy : ∀ s, ∀ x ∈ oy.op.operands, (σ.put ox.dst s).ev x = σ.ev x := fun s x hx => m09 (m02 hdx x hx)
 have gx : ∀ s, k02 ops ox (σ.put oy.dst s) = k02 ops ox σ := fun s => b03 hdy
 have gy : ∀ s, k02 ops oy (σ.put ox.dst s) = k02 ops oy σ := fun s => b03 hdx
 rcases i08 h with ⟨g, h⟩ | ⟨g, h⟩
 · rcases hy with hy | hy
   · rw [N0c hy] at h
     unfold U0b at h
     split at h
     · rename_i cy ny hCy
       obtain ⟨b0, V0, hle0, hfin0, hb0⟩ := hV.more cy
       rcases e0f hx (gx _) (evx _) (h b0 V0 hle0 hfin0 hb0) with ⟨gX, cx, nx, hCx, _⟩ | ⟨gX, _⟩
       · refine p08 hx gX hCx fun b V' hle hfin hb => ?_
         refine p08 hy (by rw [gy]; exact g) (by rw [s07 (evy _)]; exact hCy) fun b2 V2 hle2 hfin2 hb2 => ?_
         rcases e0f hx (gx _) (evx _) (h b2 V2 (View.le_trans hle hle2) hfin2 hb2) with ⟨_, cx', nx', hCx', hk⟩ | ⟨gX', _⟩
         · rw [hCx] at hCx'; cases hCx'
           have := hk b V2 (View.le_refl _) hfin2 (hle2 _ _ hb)
           rw [i03 hdd]; exact this
         · rw [gX] at gX'; cases gX'
       · refine s06 gX ?_
         refine p08 hy (by rw [gy]; exact g) (by rw [s07 (evy _)]; exact hCy) fun b2 V2 hle2 hfin2 hb2 => ?_
         rcases e0f hx (gx _) (evx _) (h b2 V2 hle2 hfin2 hb2) with ⟨gX', _⟩ | ⟨_, hk⟩
         · rw [gX] at gX'; cases gX'
         · rw [i03 hdd]; exact hk
     · exact h.elim
   · rw [J0e hy] at h
     unfold c0g at h
     split at h
     · rename_i f vs hq
       have hq' : ∀ s, H0h P oy (σ.put ox.dst s).ev = some (f, vs) := fun s => by rw [t0c (evy s)]; exact hq
       obtain ⟨v0, V0, hle0, hfin0, hr0⟩ := h.inst hV
       obtain ⟨s0, hk0, _⟩ := w0r (L0c hr0)
       have hcall : ∀ s V', V.le V' → V'.Fin → (∀ s' V1 V2, V.le V1 → V1.le V2 → V'.le V2 → V2.Fin → b04 P Shp ops ax ox (σ.put oy.dst s') V1 K → K ((σ.put ox.dst s).put oy.dst s') V2) →
        b04 P Shp ops ay oy (σ.put ox.dst s) V' K := by
        intro s V' hle hfin hK
        refine O09 (by rw [gy]; exact g) ?_
        rw [J0e hy]
        unfold c0g
        rw [hq' s]
        refine (n0m hle h).mono' fun v V2 hle2 hfin2 ⟨V1, hl12, hl1, hr⟩ => ?_
        exact n09 (fun s hs => I08 (fun s' hs' => hK s' V1 V2 hl1 hl12 hle2 hfin2 hs') hs) hr
       rcases e0f hx (gx _) (evx _) hk0 with ⟨gX, cx, nx, hCx, _⟩ | ⟨gX, _⟩
       · refine p08 hx gX hCx fun b V' hle hfin hb => hcall _ V' hle hfin fun s' V1 V2 hl1 hl12 hl2 hfin2 hs => ?_
         rcases e0f hx (gx _) (evx _) hs with ⟨_, cx', nx', hCx', hk⟩ | ⟨gX', _⟩
         · rw [hCx] at hCx'; cases hCx'
           have := hk b V2 hl12 hfin2 (hl2 _ _ hb)
           rw [i03 hdd]; exact this
         · rw [gX] at gX'; cases gX'
       · refine s06 gX (O09 (by rw [gy]; exact g) ?_)
         rw [J0e hy]
         unfold c0g
         rw [hq' (.val undef)]
         refine h.mono' fun v V1 hl1 hf1 hr => n09 (fun s hs => I08 (fun s' hs' => ?_) hs) hr
         rcases e0f hx (gx _) (evx _) hs' with ⟨gX', _⟩ | ⟨_, hk⟩
         · rw [gX] at gX'; cases gX'
         · rw [i03 hdd]; exact hk
     · exact h.elim
 · rcases e0f hx (gx _) (evx _) h with ⟨gX, cx, nx, hCx, hk⟩ | ⟨gX, hk⟩
   · refine p08 hx gX hCx fun b V' hle hfin hb => s06 (by rw [gy]; exact g) ?_
     rw [i03 hdd]; exact hk b V' hle hfin hb
   · refine s06 gX (s06 (by rw [gy]; exact g) ?_)
     rw [i03 hdd]; exact hk
end swap
