/- From what a call comes to in any world, to the form of a row: the input reads as it did. No program in sight. -/
import Derived.Test.YtnbjnokgmeamdaaVcS
import Derived.WalkKit
import Derived.ProofKit
import Derived.OpenShut
namespace Go.Vc
open Go Go.ChangeShapes Go.RowKit

/-- A call whose answer is known whatever the world. -/
theorem CallV.plain {P : Program} {f : FuncId} {args : Array Value} {r : Value} (h : CallV P f args (fun _ => none) fun v _ => v = r) (w : World) :
    Calls P f args w fun e w' => e = .returned r ∧ Below w.heap.size w w' :=
  (h w (fun b cs hb => by simp at hb)).mono fun _ _ ⟨_, _, he, _, _, _, hb, hr⟩ => ⟨by rw [he, hr], hb⟩

/-- What is to be shown of a run that left every block of before as it was. -/
theorem post_of_below {H : Type} {enc : TypeId × Value → H} {P : Program} {f : Func} {s : ChangeSpec} {apart fresh handsOn : Bool} {W W' : World} {args : Array Value} {v : Value} {ds gs : List (DataW H)} {before pa pv : List MemPlace}
    (hW : DataW.Whole enc P f.params.toList s.vars apart W args.toList ds gs before)
    (hres : ∀ (b : Nat) (sp : Nat → Bool) (hd : Bool), DataW.TrodAll enc P W' b sp hd f.resultTypes.toList (v.resultList f.resultTypes.size) (s.fn H (ds ++ gs)).results [])
    (hargs : ∀ sp : Nat → Bool, (∀ p ∈ before, sp p.block = true) → DataW.TrodAll enc P W' 0 sp true f.params.toList args.toList (s.fn H (ds ++ gs)).args pa)
    (hvars : ∀ sp : Nat → Bool, (∀ p ∈ before, sp p.block = true) → DataW.TrodVars enc P W' sp s.vars (s.fn H (ds ++ gs)).vars pv)
    (hps : before = pa ++ pv) (hb : Below W.heap.size W W') : s.post enc P f apart fresh handsOn false W args v W' := by
  have hold : ∀ p ∈ before, decide (p.block < W.heap.size) = true := fun p hp => by simpa using hW.lt p hp
  refine ⟨ds, gs, before, [], pa, pv, hW, hres _ _ _, hargs _ hold, hvars _ hold, World.keptBut_mono (fun p hp => ⟨hp, ?_⟩) (hb.frame (· ∈ before)), fun h => Bool.noConfusion h⟩
  rw [hps] at hp
  exact .inr (List.mem_append.1 hp)
end Go.Vc
