/-
  The table's index, as a map that stands; what is kept where only one block is written into.
-/
import Derived.Test.YtpcihefhagipmaaGreatDoorMade
namespace Go.Proofs.YtpcihefhagipmaaGreatDoor
open Go Go.RowKit

/-- Only the block b, of those that stood, may have changed. -/
def Turn (b : Nat) (w w' : World) : Prop := w'.os = w.os ∧ w'.tape = w.tape ∧ w'.output = w.output ∧ w.heap.size ≤ w'.heap.size ∧ ∀ k, k < w.heap.size → k ≠ b → w'.heap[k]? = w.heap[k]?
theorem Turn.of_below {b : Nat} {w w' : World} (h : Below w.heap.size w w') : Turn b w w' := ⟨h.os, h.tape, h.output, h.size, fun k hk _ => h.block k hk⟩
theorem Turn.refl (b : Nat) (w : World) : Turn b w w := .of_below (.refl _ _)
theorem Turn.trans {b : Nat} {w w' w'' : World} (h : Turn b w w') (k : Turn b w' w'') : Turn b w w'' :=
  ⟨k.1.trans h.1, k.2.1.trans h.2.1, k.2.2.1.trans h.2.2.1, Nat.le_trans h.2.2.2.1 k.2.2.2.1, fun n hn hb => (k.2.2.2.2 n (Nat.lt_of_lt_of_le hn h.2.2.2.1) hb).trans (h.2.2.2.2 n hn hb)⟩
theorem Turn.setCell {b : Nat} {a w : World} (h : Turn b a w) (i : Nat) (v : Value) : Turn b a (w.setCell ⟨b, i, none⟩ v) :=
  h.trans ⟨rfl, rfl, rfl, by simp [World.setCell], fun k _ hk => by
    unfold World.setCell
    simp only [Array.getElem?_modify]
    rw [if_neg (fun e => hk e.symm)]⟩
theorem Turn.drew {b : Nat} {a w : World} (h : Turn b a w) : Turn b a w.drew := h
theorem Turn.alloc {b : Nat} {a w : World} (h : Turn b a w) (o : Obj) : Turn b a (w.alloc o) := h.trans (.of_below ((Below.refl _ _).alloc (Nat.le_refl _) _))
theorem cell_lt {w : World} {b i : Nat} {v : Value} (h : w.cell? ⟨b, i, none⟩ = some v) : b < w.heap.size := by
  unfold World.cell? at h
  by_cases hb : b < w.heap.size
  · exact hb
  · rw [Array.getElem?_eq_none (show w.heap.size ≤ (⟨b, i, none⟩ : Addr).block by simpa using hb)] at h
    cases h
theorem Turn.cell {b k i : Nat} {w w' : World} {v : Value} (h : Turn b w w') (hk : k ≠ b) (hc : w.cell? ⟨k, i, none⟩ = some v) : w'.cell? ⟨k, i, none⟩ = some v :=
  (World.cell?_of_block (a := ⟨k, i, none⟩) (h.2.2.2.2 k (cell_lt hc) hk)).trans hc
theorem Turn.frozen {b k i : Nat} {w w' : World} (h : Turn b w w') (hk : k ≠ b) (hlt : k < w.heap.size) : w'.frozen? ⟨k, i, none⟩ = w.frozen? ⟨k, i, none⟩ :=
  World.frozen?_of_block (a := ⟨k, i, none⟩) (h.2.2.2.2 k hlt hk)

/-- What a cell of the table itself never lets stand in an entry's cell. -/
def tame : Value → Bool
  | .int .u32 _ => false
  | .int .i32 _ => false
  | .map _ => false
  | _ => true
/-- Tame cells are kept. -/
structure KeepsT (w w' : World) : Prop where
  cell : ∀ b i v, tame v = true → w.cell? ⟨b, i, none⟩ = some v → w'.cell? ⟨b, i, none⟩ = some v
  one : ∀ b, OneCell w b → OneCell w' b
theorem Keeps.tame {w w' : World} (h : Keeps w w') : KeepsT w w' := ⟨fun b i v _ hv => h.cell b i v hv, h.one⟩
theorem KeepsT.trans {a b c : World} (h : KeepsT a b) (k : KeepsT b c) : KeepsT a c := ⟨fun n i v ht hv => k.cell n i v ht (h.cell n i v ht hv), fun b hb => k.one b (h.one b hb)⟩
theorem one_setCell {w : World} {b n j : Nat} {x y : Value} (hc : w.cell? ⟨b, j, none⟩ = some x) (h : OneCell w n) : OneCell (w.setCell ⟨b, j, none⟩ y) n := by
  refine ⟨by simpa [World.setCell] using h.1, fun i v hv => ?_⟩
  by_cases e : (⟨n, i, none⟩ : Addr) = ⟨b, j, none⟩
  · cases e
    exact h.2 _ _ hc
  · rw [World.cell?_setCell_other _ _ _ _ (fun h => e (by first | exact h | exact h.symm))] at hv
    exact h.2 i v hv
theorem keepsT_setCell {w : World} {b j : Nat} {x y : Value} (hc : w.cell? ⟨b, j, none⟩ = some x) (hx : tame x = false) : KeepsT w (w.setCell ⟨b, j, none⟩ y) := by
  refine ⟨fun n i v ht hv => ?_, fun n hn => one_setCell hc hn⟩
  by_cases e : (⟨n, i, none⟩ : Addr) = ⟨b, j, none⟩
  · rw [e, hc] at hv
    cases hv
    rw [hx] at ht
    cases ht
  · rw [World.cell?_setCell_other _ _ _ _ (fun h => e (by first | exact h | exact h.symm))]
    exact hv
theorem DoOK.tame {w w' : World} {f : Value} {d : Doer} (h : DoOK w f d) (hk : KeepsT w w') : DoOK w' f d := by
  cases d with
  | plain k => exact h
  | truths k => obtain ⟨p, h1, h2⟩ := h; exact ⟨p, h1, hk.cell _ _ _ rfl h2⟩
  | tagged t => obtain ⟨p, h1, h2, h3⟩ := h; exact ⟨p, h1, hk.cell _ _ _ rfl h2, hk.one _ h3⟩
theorem DoOK.is_tame {w : World} {f : Value} {d : Doer} (h : DoOK w f d) : Proofs.YtpcihefhagipmaaGreatDoor.tame f = true := by
  cases d with
  | plain k => cases h; rfl
  | truths k => obtain ⟨p, h1, h2⟩ := h; cases h1; rfl
  | tagged t => obtain ⟨p, h1, h2⟩ := h; cases h1; rfl
theorem OwnE.tame {w w' : World} {v : Value} {x y : Int} {d : Doer} (h : OwnE w v x y d) (hk : KeepsT w w') : OwnE w' v x y d := by
  obtain ⟨pl, pm, pd, f, e, h1, h2, h3, h4⟩ := h
  exact ⟨pl, pm, pd, f, e, hk.cell _ _ _ rfl h1, hk.cell _ _ _ rfl h2, hk.cell _ _ _ h4.is_tame h3, h4.tame hk⟩
theorem LayE.tame {w w' : World} {v : Value} {s : ByteArray} {i : Nat} (h : LayE w v s i) (hk : KeepsT w w') : LayE w' v s i := by
  obtain ⟨pb, pn, e, h0, h1, h2, h3⟩ := h
  exact ⟨pb, pn, e, hk.cell _ _ _ rfl h0, hk.cell _ _ _ rfl h1, hk.cell _ _ _ rfl h2, hk.cell _ _ _ rfl h3⟩
theorem EntE.tame {w w' : World} {v : Value} {s : ByteArray} (h : EntE w s v) (hk : KeepsT w w') : EntE w' s v := by
  rcases h with ⟨x, y, d, e, h⟩ | ⟨i, e, h⟩
  · exact .inl ⟨x, y, d, e, h.tame hk⟩
  · exact .inr ⟨i, e, h.tame hk⟩

/-- The index, made. -/
def MapInv (w : World) (m : Nat) : Prop := ∃ L, w.heap[m]? = some (.map (ents L 0).toArray L.length) ∧ (∀ s v, getU s L = some v → EntE w s v) ∧ (∀ s, (getU s L).isSome = D1 50 s) ∧ (L.map (·.1)).Nodup
theorem MadeInv.map {w0 w : World} {m : Nat} (h : MadeInv w0 m (D1 50) w) : MapInv w m := by
  obtain ⟨L, _, _, h3, h4, h5⟩ := h
  exact ⟨L, h3, h4, h5⟩
theorem MadeInv.since {w0 w : World} {m : Nat} {D : ByteArray → Bool} (h : MadeInv w0 m D w) : Below w0.heap.size w0 w := by
  obtain ⟨L, h1, _⟩ := h
  exact h1
theorem MapInv.lt {w : World} {m : Nat} (h : MapInv w m) : m < w.heap.size := by
  obtain ⟨L, h3, _⟩ := h
  exact (Array.getElem?_eq_some_iff.1 h3).1
theorem MapInv.kept {w w' : World} {m : Nat} (h : MapInv w m) (hb : w'.heap[m]? = w.heap[m]?) (hk : KeepsT w w') : MapInv w' m := by
  obtain ⟨L, h3, h4, h5⟩ := h
  exact ⟨L, hb.trans h3, fun s v hv => (h4 s v hv).tame hk, h5⟩
theorem MapInv.below {w w' : World} {m : Nat} (h : MapInv w m) (hb : Below w.heap.size w w') : MapInv w' m :=
  h.kept (hb.block m h.lt) (keeps_below hb).tame
theorem MapInv.setCell {w : World} {m b j : Nat} {x y : Value} (h : MapInv w m) (hc : w.cell? ⟨b, j, none⟩ = some x) (hx : Proofs.YtpcihefhagipmaaGreatDoor.tame x = false) : MapInv (w.setCell ⟨b, j, none⟩ y) m := by
  refine h.kept ?_ (keepsT_setCell hc hx)
  obtain ⟨L, h3, h4, h5⟩ := h
  by_cases e : b = m
  · subst e
    unfold World.cell? at hc
    rw [h3] at hc
    cases hc
  · unfold World.setCell
    simp only [Array.getElem?_modify]
    rw [if_neg e]
theorem MapInv.drew {w : World} {m : Nat} (h : MapInv w m) : MapInv w.drew m := h
end Go.Proofs.YtpcihefhagipmaaGreatDoor
