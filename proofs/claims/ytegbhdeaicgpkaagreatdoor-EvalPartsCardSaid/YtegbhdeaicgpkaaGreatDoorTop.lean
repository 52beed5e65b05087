/-
  What the rows' last steps lean on: the row behind a call of which 'Below' alone is known; a list of bools among the arguments, opened; the program's closed facts.
-/
import Derived.Test.YtegbhdeaicgpkaaGreatDoorRows
import Derived.Test.YtegbhdeaicgpkaaGreatDoorBools
import Derived.Below
import Derived.Carry
import Derived.ChangeSame
import Derived.ChangeMaps5
import Derived.Deep.Grids
import Derived.WalkKit
import Derived.ProofKit
import Derived.OpenShut
import Derived.Deep.DeepHandedRow
import Derived.Deep.DeepWitnessRowRef
import Derived.Lay
namespace Go.Proofs.YtegbhdeaicgpkaaGreatDoor
open Go.RowKit Go.WideShapes Go.ChangeShapes Go.ChangeAt

theorem own_knob : ownKnob Tryz.prog.godebug = none := by kernel_rfl
theorem laid_out : laidOutB Tryz.prog = true := by kernel_rfl

section
variable {H : Type} {enc : TypeId × Value → H} {P : Program}
theorem post_of_below {f : Func} {s : ChangeSpec} {apart fresh handsOn again : Bool} {W W' : World} {args : Array Value} {v : Value} {ds gs : List (DataW H)} {before pa pv : List MemPlace}
    (hW : DataW.Whole enc P f.params.toList s.vars apart W args.toList ds gs before)
    (hres : ∀ (b : Nat) (sp : Nat → Bool) (hd : Bool), DataW.TrodAll enc P W' b sp hd f.resultTypes.toList (v.resultList f.resultTypes.size) (s.fn H (ds ++ gs)).results [])
    (hargs : ∀ sp : Nat → Bool, (∀ p ∈ before, sp p.block = true) → DataW.TrodAll enc P W' 0 sp true f.params.toList args.toList (s.fn H (ds ++ gs)).args pa)
    (hvars : ∀ sp : Nat → Bool, (∀ p ∈ before, sp p.block = true) → DataW.TrodVars enc P W' sp s.vars (s.fn H (ds ++ gs)).vars pv)
    (hps : before = pa ++ pv) (hb : Below W.heap.size W W')
    (hok : ∀ (j : Nat) (t : TypeId) (r : Value), f.resultTypes[j]? = some t → (v.resultList f.resultTypes.size)[j]? = some r → Value.okWide P W' .any 0 t r) :
    s.post enc P f apart fresh handsOn again W args v W' := by
  have hlt : ∀ p ∈ before, p.block < W.heap.size := fun p hp => hW.lt p hp
  have hold : ∀ p ∈ before, (fun b => decide (b < W.heap.size)) p.block = true := fun p hp => by simpa using hlt p hp
  refine ⟨ds, gs, before, [], pa, pv, hW, hres _ _ _, hargs _ hold, hvars _ hold, World.keptBut_mono (fun p hp => ⟨hp, ?_⟩) (hb.frame (· ∈ before)), fun _ => ?_⟩
  · rw [hps, List.mem_append] at hp
    exact Or.inr hp
  · obtain ⟨_, _, _, _, _, hz, hn⟩ := hW
    refine ⟨hok, _, _, ([] ++ pa) ++ pv, ⟨[] ++ pa, pv, trodAll_append (hargs _ (fun _ _ => rfl)) (hres _ _ _), hvars _ (fun _ _ => rfl), rfl, ?_, ?_⟩, ?_⟩
    · intro b off hp
      have hin : MemPlace.cell b off ∈ before := by rw [hps]; simpa using hp
      rw [hb.frozen (hlt _ hin)]
      exact hz b off hin
    · intro ha
      have := hn ha
      rw [hps] at this
      simpa using this
    · intro p hp _
      rw [hps]
      simpa using hp
/-- An argument that reads over blocks that stood, reads so behind the call, whatever is said of spare room. -/
theorem trod_kept {t : TypeId} (hl : laidOutB P = true) (hr : P.readableRec t = true) (hrow : t < P.types.size) {W W' : World} {v : Value} {d : DataW H} {ps : List MemPlace}
    (h : DataW.Trod enc P W 0 (fun _ => true) true t v d ps) (hb : Below W.heap.size W W') (hlt : ∀ x ∈ ps, x.block < W.heap.size) (sp : Nat → Bool) (hsp : ∀ p ∈ ps, sp p.block = true) :
    DataW.Trod enc P W' 0 sp true t v d ps :=
  WideElems.Trod_stays hl hr hrow h (fun x hx => hb.same (hlt x hx)) hsp
/-- A list of bools, opened. -/
theorem open_boolslice {W : World} {t e : TypeId} {v : Value} {d : DataW H} {ps : List MemPlace} {r : Reach} {b0 : Nat} (ht : P.underlying t = some (.slice e)) (he : P.underlying e = some .bool) (hc : P.cellsOf e = 1)
    (hv : Value.okWide P W r b0 t v) (h : DataW.Trod enc P W 0 (fun _ => true) true t v d ps) : ∃ (A : Option Addr) (n c : Nat) (xs : List Bool), v = .slice A n c ∧ n ≤ 9223372036854775807 ∧ Reads W W.heap.size 1 A n (xs.map Value.bool) := by
  obtain ⟨A, n, c, rfl⟩ := okWide_slice ht hv
  obtain ⟨fuel, hf⟩ := h
  rcases Go.Deep.open_bools ht he hc hf with ⟨hcs, _⟩ | ⟨a, len, cap, B, hcs, _, hl, hm, _, hcell⟩
  · have e1 : Value.slice A n c = .slice none 0 0 := by simpa [Value.cells] using hcs
    cases e1
    exact ⟨none, 0, 0, [], rfl, by decide, rfl, fun h => by omega⟩
  · have e1 : Value.slice A n c = .slice (some a) len cap := by simpa [Value.cells] using hcs
    cases e1
    simp only [maxLen] at hm
    refine ⟨_, _, _, (List.range n).map B, rfl, by omega, by simp, fun hn => ?_⟩
    have h0 := hcell 0 (by omega)
    have h1 : a.add 0 = a := rfl
    rw [h1] at h0
    have hs := World.cell?_spot h0
    obtain ⟨b, off, spot⟩ := a
    simp only at hs
    subst hs
    refine ⟨b, off, rfl, World.block_lt_of_cell? W _ h0, fun j u hu => ?_⟩
    rw [List.getElem?_map, List.getElem?_map] at hu
    have hj : j < n := by
      rcases Nat.lt_or_ge j n with h | h
      · exact h
      · rw [List.getElem?_eq_none (by simpa using h)] at hu; cases hu
    rw [List.getElem?_eq_getElem (by simpa using hj)] at hu
    simp at hu
    subst hu
    have h2 := hcell j (by omega)
    have h3 : (⟨b, off, none⟩ : Addr).add j = ⟨b, off + j, none⟩ := by unfold Addr.add; split <;> simp_all
    rw [h3] at h2
    exact h2
end
end Go.Proofs.YtegbhdeaicgpkaaGreatDoor
