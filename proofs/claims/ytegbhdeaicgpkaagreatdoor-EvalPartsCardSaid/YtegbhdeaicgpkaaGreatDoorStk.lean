/-
  A slice that a loop owns and uses as a stack: pushed, popped, read. Plain laws, no program in sight but the numbers of types.
-/
import Derived.Test.YtegbhdeaicgpkaaGreatDoorEvalA
import Derived.Test.YtegbhdeaicgpkaaGreatDoorBools
import Derived.WalkKit
import Derived.WalkSmall
import Derived.Laws.OwnMore
import Derived.Deep.DeepCutAuto
namespace Go.Proofs.YtegbhdeaicgpkaaGreatDoor
open Go Go.RowKit

theorem stk_below {w w1 : World} {base e size n : Nat} {v : Value} {xs : List Value} (h : w.ownsRow base e size v n xs) (hb : Below w.heap.size w w1) : w1.ownsRow base e size v n xs := by
  refine ⟨h.1, ?_⟩
  rcases h.2 with h2 | ⟨g, cap, cur, e1, hg, hh, rest⟩
  · exact .inl h2
  · exact .inr ⟨g, cap, cur, e1, hg, (hb.block g (Array.getElem?_eq_some_iff.1 hh).1).trans hh, rest⟩
/-- What is owned, where it is not empty: its form, its cells. -/
theorem stk_form {w : World} {base e size n : Nat} {v : Value} {xs : List Value} (h : w.ownsRow base e size v n xs) (hn : 0 < n) : ∃ g c, v = .slice (some ⟨g, 0, none⟩) n c ∧ n ≤ c ∧ c ≤ maxLen ∧ base ≤ g ∧ g < w.heap.size ∧ (∀ j u, xs[j]? = some u → w.cell? ⟨g, j, none⟩ = some u) ∧ ∀ j, w.frozen? ⟨g, j, none⟩ = false := by
  rcases h.2 with ⟨_, h2⟩ | ⟨g, cap, cur, e1, hg, hh, h1, h2, h3, h4⟩
  · omega
  · subst e1
    refine ⟨g, cap, rfl, h1, h2, hg, (Array.getElem?_eq_some_iff.1 hh).1, fun j u hu => ?_, fun j => h.frozenAt j⟩
    have hj : j < xs.length := (List.getElem?_eq_some_iff.1 hu).1
    rw [h.cellAt j (by rw [← h.1]; exact hj), hu]
theorem stk_take1 {α : Type} {xs : List α} {k : Nat} {a : α} (h : xs[k]? = some a) : xs.take (k + 1) = xs.take k ++ [a] := by
  rw [List.take_add_one, h]
  rfl
theorem stk_fresh {w : World} {cs : Array Value} {t : TypeId} {b : Nat} (hb : b = w.heap.size) : ∀ j u, cs.toList[j]? = some u → (w.alloc (.cells cs t)).cell? ((⟨b, 0, none⟩ : Addr).add j) = some u := by
  subst hb
  intro j u hu
  have e : (⟨w.heap.size, 0, none⟩ : Addr).add j = ⟨w.heap.size, j, none⟩ := by unfold Addr.add; split <;> simp_all
  rw [e, cell_of_row (w.alloc (.cells cs t)) w.heap.size j cs t (0, 0) (heap_alloc_new w _)]
  simpa using hu
/-- What the rounds keep: what stood, and the stack. -/
def StkRel (w wr : World) (e : TypeId) (size : Nat) (v : Value) (k : Nat) (xs : List Value) : Prop := Below w.heap.size w wr ∧ wr.ownsRow w.heap.size e size v k xs
theorem StkRel.step {w wr w2 w3 : World} {e : TypeId} {size : Nat} {v v' : Value} {k k' : Nat} {xs ys : List Value} (h : StkRel w wr e size v k xs) (hb : Below wr.heap.size wr w2)
    (ho : w3.ownsRow w.heap.size e size v' k' ys) (hg : w2.grownBy w3 v.ownBlock) : StkRel w w3 e size v' k' ys := by
  obtain ⟨h1, h3⟩ := h
  have hrow : ∀ k, v.ownBlock = some k → w.heap.size ≤ k := fun k hk => (h3.lt k hk).1
  have s1 := h1.size
  have s2 := hb.size
  exact ⟨(h1.trans (hb.mono (by omega))).grown hg (by omega) hrow, ho⟩
theorem StkRel.below {w wr w2 : World} {e : TypeId} {size : Nat} {v : Value} {k : Nat} {xs : List Value} (h : StkRel w wr e size v k xs) (hb : Below wr.heap.size wr w2) : StkRel w w2 e size v k xs :=
  ⟨h.1.trans (hb.mono h.1.size), stk_below h.2 hb⟩
theorem StkRel.pop {w wr : World} {e : TypeId} {size g cap n : Nat} {xs last : List Value} (hx : xs.length = n * size) (h : StkRel w wr e size (.slice (some ⟨g, 0, none⟩) (n + 1) cap) (n + 1) (xs ++ last)) : StkRel w wr e size (.slice (some ⟨g, 0, none⟩) n cap) n xs :=
  ⟨h.1, ownsRow_pop hx h.2⟩
/-- A list of lists of one length, laid one behind another. -/
def flatC {α : Type} (f : α → List Value) (l : List α) : List Value := l.flatMap f
theorem flatC_append {α : Type} (f : α → List Value) (a b : List α) : flatC f (a ++ b) = flatC f a ++ flatC f b := by simp [flatC]
theorem flatC_length {α : Type} (f : α → List Value) (size : Nat) (hf : ∀ x, (f x).length = size) (l : List α) : (flatC f l).length = l.length * size := by
  induction l with
  | nil => simp [flatC]
  | cons a l ih =>
    have : flatC f (a :: l) = f a ++ flatC f l := by simp [flatC]
    rw [this, List.length_append, hf, ih, List.length_cons, Nat.add_mul]
    omega
theorem flatC_at {α : Type} (f : α → List Value) (size : Nat) (hf : ∀ x, (f x).length = size) (l : List α) (j : Nat) (x : α) (hx : l[j]? = some x) (i : Nat) (u : Value) (hu : (f x)[i]? = some u) : (flatC f l)[j * size + i]? = some u := by
  induction l generalizing j with
  | nil => simp at hx
  | cons a l ih =>
    have e : flatC f (a :: l) = f a ++ flatC f l := by simp [flatC]
    rw [e]
    cases j with
    | zero =>
      simp only [List.getElem?_cons_zero, Option.some.injEq] at hx
      subst hx
      have hi : i < (f a).length := (List.getElem?_eq_some_iff.1 hu).1
      rw [Nat.zero_mul, Nat.zero_add, List.getElem?_append_left hi]
      exact hu
    | succ j =>
      simp only [List.getElem?_cons_succ] at hx
      have h1 := ih j hx
      have h2 : (j + 1) * size + i = (f a).length + (j * size + i) := by rw [hf, Nat.add_mul]; omega
      rw [h2, List.getElem?_append_right (by omega), Nat.add_sub_cancel_left]
      exact h1
theorem stk_pop2 {α : Type} (f : α → List Value) {size : Nat} (hf : ∀ x, (f x).length = size) {w : World} {base g cap : Nat} {e : TypeId} (pre : List α) (a b : α)
    (h : w.ownsRow base e size (.slice (some ⟨g, 0, none⟩) (pre.length + 2) cap) (pre.length + 2) (flatC f (pre ++ [a, b]))) : w.ownsRow base e size (.slice (some ⟨g, 0, none⟩) pre.length cap) pre.length (flatC f pre) := by
  have e1 : flatC f (pre ++ [a, b]) = flatC f (pre ++ [a]) ++ flatC f [b] := by rw [← flatC_append]; simp
  rw [e1] at h
  have h1 := ownsRow_pop (n := pre.length + 1) (by rw [flatC_length f size hf]; simp) h
  rw [flatC_append] at h1
  exact ownsRow_pop (by rw [flatC_length f size hf]) h1
/-- Block p holds the cells. -/
def AtB (w : World) (p : Nat) (l : List Value) : Prop := ∀ j u, l[j]? = some u → w.cell? ⟨p, j, none⟩ = some u
theorem AtB.below {w w' : World} {p : Nat} {l : List Value} (h : AtB w p l) (hb : Below w.heap.size w w') : AtB w' p l := fun j u hu => by
  have h1 := h j u hu
  have h2 : p < w.heap.size := World.block_lt_of_cell? w _ h1
  exact (hb.cell (p := ⟨p, j, none⟩) (by simpa using h2)).trans h1
theorem cell_below {w w' : World} {p j : Nat} {u : Value} (h : w.cell? ⟨p, j, none⟩ = some u) (hb : Below w.heap.size w w') : w'.cell? ⟨p, j, none⟩ = some u :=
  (hb.cell (p := ⟨p, j, none⟩) (by simpa using World.block_lt_of_cell? w _ h)).trans h
theorem AtB.new {w : World} {cs : Array Value} {t : TypeId} {p : Nat} (hp : p = w.heap.size) : AtB (w.alloc (.cells cs t)) p cs.toList := by
  subst hp
  intro j u hu
  rw [cell_of_row (w.alloc (.cells cs t)) w.heap.size j cs t (0, 0) (heap_alloc_new w _)]
  simpa using hu
theorem AtB.allocI {w : World} {p : Nat} {l : List Value} (h : AtB w p l) (o : Obj) : AtB (w.alloc o) p l := fun j u hu => (World.cell?_alloc_lt w _ _ (World.block_lt_of_cell? w _ (h j u hu))).trans (h j u hu)
theorem cell_ltJ {w : World} {b i : Nat} {v : Value} (h : w.cell? ⟨b, i, none⟩ = some v) : b < w.heap.size := World.block_lt_of_cell? w _ h
/-! Cells that stay, step by step. -/
theorem cell_allocJ {w : World} {p i : Nat} {v : Value} (h : w.cell? ⟨p, i, none⟩ = some v) (o : Obj) : (w.alloc o).cell? ⟨p, i, none⟩ = some v := (World.cell?_alloc_lt w _ _ (World.block_lt_of_cell? w _ h)).trans h
theorem cell_moreJ {w : World} {p i : Nat} {v : Value} (h : w.cell? ⟨p, i, none⟩ = some v) (l : List Obj) (n : Nat) : (more w l n).cell? ⟨p, i, none⟩ = some v := (more_cell (World.block_lt_of_cell? w _ h)).trans h
theorem cell_drewJ {w : World} {p i : Nat} {v : Value} (h : w.cell? ⟨p, i, none⟩ = some v) : w.drew.cell? ⟨p, i, none⟩ = some v := h
theorem cell_drewNJ {w : World} {p i : Nat} {v : Value} (h : w.cell? ⟨p, i, none⟩ = some v) (n : Nat) : (w.drewN n).cell? ⟨p, i, none⟩ = some v := h
theorem cell_setJ {w : World} {p i q j : Nat} {v u : Value} (h : w.cell? ⟨p, i, none⟩ = some v) (hn : p ≠ q) : (w.setCell ⟨q, j, none⟩ u).cell? ⟨p, i, none⟩ = some v := (World.cell?_setCell_other _ _ _ _ (by simp [hn])).trans h
end Go.Proofs.YtegbhdeaicgpkaaGreatDoor
