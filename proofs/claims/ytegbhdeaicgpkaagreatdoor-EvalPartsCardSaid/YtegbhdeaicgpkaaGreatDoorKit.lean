/-
  A world behind a call that leaves all that stood: the old world with blocks more. Plain laws, which the walk takes by itself; no condition.
-/
import Derived.Handy
import Derived.Lib.Hide
import Derived.Deep.Draws
import Derived.WalkLawsBesides
namespace Go.Proofs.YtegbhdeaicgpkaaGreatDoor
open Go Go.RowKit

/-- The world w with blocks l more, so many answers drawn. -/
def more (w : World) (l : List Obj) (n : Nat) : World := { w with heap := w.heap ++ l.toArray, drawn := n }

section
variable {w w' : World} {l l' : List Obj} {n n' b i : Nat} {v : Value}
@[simp, go_sem] theorem more_size : (more w l n).heap.size = w.heap.size + l.length := by simp [more]
theorem more_block (h : b < w.heap.size) : (more w l n).heap[b]? = w.heap[b]? := by
  show (w.heap ++ l.toArray)[b]? = _
  rw [Array.getElem?_append_left h]
@[go_sem] theorem more_cell (h : b < w.heap.size) : (more w l n).cell? ⟨b, i, none⟩ = w.cell? ⟨b, i, none⟩ := World.cell?_of_block (a := ⟨b, i, none⟩) (more_block h)
@[go_sem] theorem more_frozen (h : b < w.heap.size) : (more w l n).frozen? ⟨b, i, none⟩ = w.frozen? ⟨b, i, none⟩ := World.frozen?_of_block (a := ⟨b, i, none⟩) (more_block h)
@[go_sem] theorem more_setCell (h : b < w.heap.size) : (more w l n).setCell ⟨b, i, none⟩ v = more (w.setCell ⟨b, i, none⟩ v) l n := by
  unfold World.setCell more
  congr 1
  apply Array.ext_getElem?
  intro k
  simp only [Array.getElem?_modify, Array.getElem?_append, Array.size_modify]
  by_cases hk : b = k
  · subst hk
    simp [h]
  · simp [hk]
@[go_sem] theorem more_drew : (more w l n).drew = more w l (n + 1) := rfl
@[go_sem] theorem more_drewN (k : Nat) : (more w l n).drewN k = more w l (n + k) := rfl
@[go_sem] theorem drew_more : more w.drew l n = more w l n := rfl
@[go_sem] theorem drewN_more (k : Nat) : more (w.drewN k) l n = more w l n := rfl
@[go_sem] theorem more_more : more (more w l n) l' n' = more w (l ++ l') n' := by
  unfold more
  simp
theorem below_more {B : Nat} (h : B ≤ w.heap.size) : Below B w (more w l n) := ⟨rfl, rfl, rfl, by simp [more], fun k hk => more_block (by omega)⟩
theorem below_more' {B : Nat} {a : World} (h : Below B a w) (hB : B ≤ w.heap.size) : Below B a (more w l n) := h.trans (below_more hB)
/-- Behind a call that leaves all that stood. -/
theorem more_of_below (h : Below w.heap.size w w') : ∃ l n, w' = more w l n := by
  refine ⟨(w'.heap.toList.drop w.heap.size), w'.drawn, ?_⟩
  obtain ⟨h1, h2, h3, h4, h5⟩ := h
  have e : w'.heap = w.heap ++ (w'.heap.toList.drop w.heap.size).toArray := by
    apply Array.ext_getElem?
    intro k
    rw [Array.getElem?_append]
    by_cases hk : k < w.heap.size
    · rw [if_pos hk]; exact h5 k hk
    · rw [if_neg hk]
      simp only [List.getElem?_toArray, List.getElem?_drop, Array.getElem?_toList]
      congr 1
      omega
  cases w' with
  | mk hp tp dr os out =>
    simp only at h1 h2 h3 e ⊢
    subst h1 h2 h3
    unfold more
    rw [← e]
end
/-! Numbers of blocks behind a call. -/
@[go_sem] theorem lt_len {n a : Nat} {l : List Obj} (h : n < a) : n < a + l.length := Nat.lt_of_lt_of_le h (Nat.le_add_right _ _)
@[go_sem] theorem lt_len1 {n a : Nat} {l : List Obj} (h : n < a + l.length) : n < a + l.length + 1 := Nat.lt_succ_of_lt h
@[go_sem] theorem lt_len2 {n a : Nat} {l : List Obj} (h : n < a + l.length + 1) : n < a + l.length + 1 + 1 := Nat.lt_succ_of_lt h
@[go_sem] theorem lt_len3 {n a : Nat} {l : List Obj} (h : n < a + l.length + 1 + 1) : n < a + l.length + 1 + 1 + 1 := Nat.lt_succ_of_lt h
@[go_sem] theorem le_len {n a : Nat} {l : List Obj} (h : n ≤ a) : n ≤ a + l.length := Nat.le_trans h (Nat.le_add_right _ _)
@[go_sem] theorem le_len1 {n a : Nat} {l : List Obj} (h : n ≤ a) : n ≤ a + l.length + 1 := by omega
@[go_sem] theorem le_len2 {n a : Nat} {l : List Obj} (h : n ≤ a) : n ≤ a + l.length + 1 + 1 := by omega
@[go_sem] theorem eq_len {b a : Nat} {l : List Obj} (h : b < a) : (b = a + l.length) = False := by simp; omega
@[go_sem] theorem eq_len1 {b a : Nat} {l : List Obj} (h : b < a) : (b = a + l.length + 1) = False := by simp; omega
@[go_sem] theorem eq_len2 {b a : Nat} {l : List Obj} (h : b < a) : (b = a + l.length + 1 + 1) = False := by simp; omega
@[go_sem] theorem eq_len3 {b a : Nat} {l : List Obj} (h : b < a) : (b = a + l.length + 1 + 1 + 1) = False := by simp; omega
@[go_sem] theorem eq_lenr {b a : Nat} {l : List Obj} (h : b < a) : (a + l.length = b) = False := by simp; omega
theorem bel_alloc {B : Nat} {a w : World} (h : Below B a w) (o : Obj) (hB : B ≤ w.heap.size) : Below B a (w.alloc o) := h.alloc hB o
theorem below_drewN {B : Nat} {a w : World} (h : Below B a w) (n : Nat) : Below B a (w.drewN n) := ⟨h.os, h.tape, h.output, h.size, h.block⟩
end Go.Proofs.YtegbhdeaicgpkaaGreatDoor
