/-
  The program's slices.Contains at []bool (asked for true), for every list.
-/
import Derived.Test.YtegbhdeaicgpkaaGreatDoorKit
import Derived.Test.YtegbhdeaicgpkaaGreatDoorProg
namespace Go.Proofs.YtegbhdeaicgpkaaGreatDoor
open Go Go.RowKit

/-- The slice value '.slice A n c' holds the cells xs, below block B. -/
def Reads (w : World) (B size : Nat) (A : Option Addr) (n : Nat) (xs : List Value) : Prop :=
  xs.length = n * size ∧ (0 < n → ∃ b off, A = some ⟨b, off, none⟩ ∧ b < B ∧ ∀ j u, xs[j]? = some u → w.cell? ⟨b, off + j, none⟩ = some u)
theorem Reads.keep {w w' : World} {B B' size n : Nat} {A : Option Addr} {xs : List Value} (h : Reads w B size A n xs) (hk : ∀ b i v, b < B → w.cell? ⟨b, i, none⟩ = some v → w'.cell? ⟨b, i, none⟩ = some v) (hB : B ≤ B') : Reads w' B' size A n xs :=
  ⟨h.1, fun hn => by
    obtain ⟨b, off, e, hb, hc⟩ := h.2 hn
    exact ⟨b, off, e, by omega, fun j u hu => hk _ _ _ hb (hc j u hu)⟩⟩
theorem Reads.below {w w' : World} {B size n : Nat} {A : Option Addr} {xs : List Value} (h : Reads w B size A n xs) (hb : Below B w w') : Reads w' B size A n xs :=
  h.keep (fun b i v hlt hv => (hb.cell (p := ⟨b, i, none⟩) hlt).trans hv) (Nat.le_refl _)

/-- A block of at most one cell. -/
def OneCell (w : World) (b : Nat) : Prop := b < w.heap.size ∧ ∀ i v, w.cell? ⟨b, i, none⟩ = some v → i = 0
theorem OneCell.of_block {w w' : World} {b : Nat} (h : OneCell w b) (hs : w.heap.size ≤ w'.heap.size) (e : w'.heap[b]? = w.heap[b]?) : OneCell w' b :=
  ⟨Nat.lt_of_lt_of_le h.1 hs, fun i v hv => h.2 i v ((World.cell?_of_block (w := w) (w' := w') (a := ⟨b, i, none⟩) e).symm.trans hv)⟩
theorem one_alloc (w : World) (c : Value) (t : TypeId) : OneCell (w.alloc (.cells #[c] t)) w.heap.size := by
  refine ⟨by simp, fun i v hv => ?_⟩
  rw [cell_of_row (w.alloc (.cells #[c] t)) w.heap.size i #[c] t (0, 0) (heap_alloc_new w _)] at hv
  have := (Array.getElem?_eq_some_iff.1 hv).1
  simp at this
  exact this
/-- Each cell that was there holds what it held. -/
structure Keeps (w w' : World) : Prop where
  cell : ∀ b i v, w.cell? ⟨b, i, none⟩ = some v → w'.cell? ⟨b, i, none⟩ = some v
  one : ∀ b, OneCell w b → OneCell w' b
theorem keeps_refl (w : World) : Keeps w w := ⟨fun _ _ _ h => h, fun _ h => h⟩
theorem Keeps.trans {a b c : World} (h : Keeps a b) (k : Keeps b c) : Keeps a c := ⟨fun n i v hv => k.cell n i v (h.cell n i v hv), fun b hb => k.one b (h.one b hb)⟩
theorem keeps_alloc {a w : World} (h : Keeps a w) (o : Obj) : Keeps a (w.alloc o) := by
  refine ⟨fun n i v hv => ?_, fun b hb => (h.one b hb).of_block (by simp) (Below.heap_alloc w o b (h.one b hb).1)⟩
  have h1 := h.cell n i v hv
  rw [World.cell?_alloc_past _ _ _ (World.block_lt_of_cell? w _ h1)]
  exact h1
theorem keeps_more {a w : World} (h : Keeps a w) (l : List Obj) (k : Nat) : Keeps a (more w l k) := by
  refine ⟨fun n i v hv => ?_, fun b hb => (h.one b hb).of_block (by simp) (more_block (h.one b hb).1)⟩
  have h1 := h.cell n i v hv
  rw [more_cell (World.block_lt_of_cell? w _ h1)]
  exact h1
theorem keeps_drew {a w : World} (h : Keeps a w) : Keeps a w.drew := ⟨h.cell, h.one⟩
theorem keeps_drewN {a w : World} (h : Keeps a w) (n : Nat) : Keeps a (w.drewN n) := ⟨h.cell, h.one⟩
theorem keeps_below {w w' : World} (h : Below w.heap.size w w') : Keeps w w' := ⟨fun n i v hv => (h.cell (p := ⟨n, i, none⟩) (World.block_lt_of_cell? w _ hv)).trans hv, fun b hb => hb.of_block h.size (h.block b hb.1)⟩
theorem Reads.keeps {w w' : World} {B size n : Nat} {A : Option Addr} {xs : List Value} (h : Reads w B size A n xs) (hk : Keeps w w') : Reads w' B size A n xs :=
  h.keep (fun b i v _ hv => hk.cell b i v hv) (Nat.le_refl _)
theorem Reads.lift {w : World} {B B' size n : Nat} {A : Option Addr} {xs : List Value} (h : Reads w B size A n xs) (hB : B ≤ B') : Reads w B' size A n xs := h.keep (fun _ _ _ _ hv => hv) hB

def hasTrue (xs : List Bool) : Bool := xs.contains true
def NoTrue (xs : List Bool) (k : Nat) : Prop := ∀ j, j < k → xs[j]? ≠ some true
theorem noTrue_step {xs : List Bool} {k : Nat} (h : NoTrue xs k) (hk : (xs.getD k false) = false) : NoTrue xs (k + 1) := by
  intro j hj
  by_cases e : j = k
  · subst e
    intro h'
    simp [List.getD, h'] at hk
  · exact h j (by omega)
theorem noTrue_end {xs : List Bool} {n : Nat} (h : NoTrue xs n) (hn : xs.length = n) : hasTrue xs = false := by
  unfold hasTrue
  rw [List.contains_eq_mem]
  simp only [decide_eq_false_iff_not]
  intro hm
  obtain ⟨j, hj⟩ := List.mem_iff_getElem?.1 hm
  have : j < xs.length := (List.getElem?_eq_some_iff.1 hj).1
  exact h j (by omega) hj
theorem hasTrue_of {xs : List Bool} {k : Nat} (h : (xs.getD k false) = true) : hasTrue xs = true := by
  unfold hasTrue
  simp only [List.getD] at h
  cases hx : xs[k]? with
  | none => rw [hx] at h; cases h
  | some v =>
    rw [hx] at h
    simp at h
    subst h
    simpa using List.mem_of_getElem? hx

/-- what Index says: a place of a true, or -1 -/
def IdxSays (xs : List Bool) (e : Ending) : Prop := ∃ r : Int, e = .returned (.int .i64 r) ∧ (decide (0 ≤ r) = hasTrue xs)

theorem index_bools (A : Option Addr) (n c B : Nat) (xs : List Bool) (w : World) (hr : Reads w B 1 A n (xs.map Value.bool)) (hm : n ≤ 9223372036854775807) :
    Calls Tryz.prog 161 #[.slice A n c, .bool true] w fun e w' => IdxSays xs e ∧ w = w' := by
  have hlen : xs.length = n := by have := hr.1; simpa using this
  by_cases h0 : n = 0
  · subst h0
    have hx : xs = [] := by simpa using hlen
    subst hx
    clear hr hlen hm
    go_enter Tryz.func161, Tryz.ntmps161
    go_wp2
    refine wp_loop_rounds 1 ?_
    rw [rounds_succ]
    go_wp2
    go_ret
    exact ⟨⟨_, rfl, by decide⟩, rfl⟩
  · obtain ⟨b, off, rfl, _, hc⟩ := hr.2 (by omega)
    have hcell : ∀ k, k < n → w.cell? ⟨b, off + k, none⟩ = some (.bool (xs.getD k false)) := fun k hk => hc k _ (by simp [List.getD, List.getElem?_eq_getElem (show k < xs.length by omega)])
    have HC := Lib.hid hcell
    have HL := Lib.hid hlen
    clear hc hr hcell hlen h0
    go_enter Tryz.func161, Tryz.ntmps161
    go_wp2
    go_loop [8] (fun t => ∃ k : Nat, k ≤ n ∧ t = .int .i64 k ∧ NoTrue xs k) (fun t => n - (intOf t).toNat)
    case atStart => exact ⟨0, Nat.zero_le _, rfl, fun j hj => by omega⟩
    case round =>
      obtain ⟨k, hk, rfl, hno⟩ := hrel
      by_cases hlt : k < n
      · have hcell := HC.out k hlt
        cases hv : xs.getD k false with
        | true =>
          rw [hv] at hcell
          have hh := Lib.hid (hasTrue_of hv)
          clear hv
          go_wp2
          go_ret
          exact ⟨⟨_, rfl, by rw [hh.out]; simp⟩, rfl⟩
        | false =>
          rw [hv] at hcell
          have hh := noTrue_step hno hv
          clear hv hno
          go_wp2
          go_round
          case rel => exact ⟨k + 1, by omega, by go_num, hh⟩
          case measure => simp [intOf]; omega
      · have hh := Lib.hid (noTrue_end hno (HL.out.trans (by omega)))
        clear hno
        go_wp2
        go_ret
        exact ⟨⟨_, rfl, by rw [hh.out]; decide⟩, rfl⟩

theorem contains_bools (A : Option Addr) (n c B : Nat) (xs : List Bool) (w : World) (hr : Reads w B 1 A n (xs.map Value.bool)) (hm : n ≤ 9223372036854775807) :
    Calls Tryz.prog 78 #[.slice A n c, .bool true] w fun e w' => e = .returned (.bool (hasTrue xs)) ∧ w = w' := by
  go_enter Tryz.func78, Tryz.ntmps78
  go_wp2_with fail
  refine (index_bools A n c B xs w hr hm).mono ?_
  rintro e w1 ⟨⟨r, rfl, hx⟩, rfl⟩
  have HX := Lib.hid hx
  clear hx hr hm
  go_wp2
  go_ret
  exact ⟨by rw [← HX.out]; rfl, rfl⟩
end Go.Proofs.YtegbhdeaicgpkaaGreatDoor
