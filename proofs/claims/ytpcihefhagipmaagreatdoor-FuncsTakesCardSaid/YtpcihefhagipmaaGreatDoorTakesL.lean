/-
  The plain law of Known and Takes: the program's tables are the document's.
-/
import Derived.Test.YtpcihefhagipmaaGreatDoorRefC
namespace Go.Proofs.YtpcihefhagipmaaGreatDoor
open Go Go.RowKit

theorem numTab_pos {s : ByteArray} {x y : Int} (h : numTab s = some (x, y)) : 0 < y := by
  unfold numTab at h
  iterate 16
    rcases ite_some h with e | h
    · cases e; decide
  cases h
theorem textTab_pos {s c : ByteArray} {x : Int} (h : textTab s = some (c, x)) : (0 : Int) < c.size := by
  unfold textTab at h
  iterate 16
    rcases ite_some h with e | h
    · cases e; decide
  cases h
theorem aggTab_pos {s c : ByteArray} {x y : Int} (h : aggTab s = some (c, x, y)) : 0 < y := by
  unfold aggTab at h
  iterate 18
    rcases ite_some h with e | h
    · cases e; decide
  cases h
theorem ownTab_pos {s : ByteArray} {x y : Int} {d : Doer} (h : ownTab s = some (x, y, d)) : 0 < y := by
  unfold ownTab at h
  iterate 16
    rcases ite_some h with e | h
    · cases e; decide
  cases h
theorem k8_eq (s : ByteArray) : decide (0 < (want08 s).2) = (numTab s).isSome := by
  unfold want08
  cases h : numTab s with
  | none => rfl
  | some q => simpa using numTab_pos h
theorem k9_eq (s : ByteArray) : decide (0 < (want09 s).2.1) = (textTab s).isSome := by
  unfold want09
  cases h : textTab s with
  | none => rfl
  | some q => simpa using textTab_pos h
theorem k10_eq (s : ByteArray) : decide (0 < (want10 s).2.2) = (aggTab s).isSome := by
  unfold want10
  cases h : aggTab s with
  | none => rfl
  | some q => simpa using aggTab_pos h
theorem k11_eq (s : ByteArray) : decide (0 < (want11 s).2) = (ownTab s).isSome := by
  unfold want11
  cases h : ownTab s with
  | none => rfl
  | some q => obtain ⟨x, y, d⟩ := q; simpa using ownTab_pos h
theorem takes_law (s : ByteArray) (n : Nat) (xs : List Bool) (hn : xs.length = n) : takesAll s xs = tabRef s n xs := by
  subst hn
  unfold tabRef takesAll
  rw [k8_eq, k9_eq, k10_eq]
  cases ho : ownTab s with
  | some q =>
    obtain ⟨x, y, d⟩ := q
    have hl := own_lay s ho
    unfold layOf at hl
    have h8 : (numTab s).isSome = false := by cases h : (numTab s).isSome <;> simp [h] at hl ⊢
    have h9 : (textTab s).isSome = false := by cases h : (textTab s).isSome <;> simp [h, h8] at hl ⊢
    have h10 : (aggTab s).isSome = false := by cases h : (aggTab s).isSome <;> simp [h, h8, h9] at hl ⊢
    simp [h8, h9, h10, want11, ho, rtakes, Bool.and_comm]
  | none =>
    unfold layOf
    cases h8 : numTab s with
    | some q => obtain ⟨x, y⟩ := q; simp [layTakes, takesNum, h8, want08, rtakes, Bool.and_comm]
    | none =>
      cases h9 : textTab s with
      | some q => obtain ⟨c, x⟩ := q; simp [layTakes, takesText, h9, want09, rtakes, Bool.and_comm]
      | none =>
        cases h10 : aggTab s with
        | some q => simp [layTakes]
        | none => simp [want11, ho, rtakes, between]; omega
theorem ite_is {α : Type} {p : Prop} [Decidable p] {b : Bool} {a : α} {o : Option α} (h : b = o.isSome) : (if p then true else b) = (if p then some a else o).isSome := by
  by_cases hp : p
  · rw [if_pos hp, if_pos hp]; rfl
  · rw [if_neg hp, if_neg hp]; exact h
theorem isOwn_eq (s : ByteArray) : isOwn s = (ownTab s).isSome := by
  unfold isOwn ownTab
  iterate 16 refine ite_is ?_
  rfl
theorem first_lay {s : ByteArray} (h : inFirst 50 s = true) : (layOf s).isSome = true := by
  unfold inFirst at h
  rw [List.any_eq_true] at h
  obtain ⟨n, hn, e⟩ := h
  have e' : s = n := by simpa using e
  subst e'
  obtain ⟨k, hk, hg⟩ := List.mem_iff_getElem.1 (List.mem_of_mem_take hn)
  have hk' : k < 50 := hk
  have : nmK k = s := by unfold nmK; rw [List.getD, List.getElem?_eq_getElem hk, Option.getD_some, hg]
  rw [← this, layOf_nm hk']
  rfl
theorem known_law (s : ByteArray) : D1 50 s = (decide (0 < (want11 s).2) || (decide (0 < (want08 s).2) || (decide (0 < (want09 s).2.1) || decide (0 < (want10 s).2.2)))) := by
  rw [k8_eq, k9_eq, k10_eq, k11_eq]
  cases hd : D1 50 s with
  | true =>
    unfold D1 at hd
    cases ho : isOwn s with
    | true => rw [isOwn_eq] at ho; rw [ho]; rfl
    | false =>
      rw [ho, Bool.false_or] at hd
      have hl := first_lay hd
      unfold layOf at hl
      cases h8 : (numTab s).isSome <;> cases h9 : (textTab s).isSome <;> cases h10 : (aggTab s).isSome <;> simp [h8, h9, h10] at hl ⊢
  | false =>
    unfold D1 at hd
    simp only [Bool.or_eq_false_iff] at hd
    have ho : (ownTab s).isSome = false := by
      cases h : ownTab s with
      | none => rfl
      | some q => rw [own_known s h] at hd; cases hd.1
    have hl : layOf s = none := by
      cases h : layOf s with
      | none => rfl
      | some q => rw [lay_known s h] at hd; cases hd.2
    unfold layOf at hl
    have h8 : (numTab s).isSome = false := by cases h : (numTab s).isSome <;> simp [h] at hl ⊢
    have h9 : (textTab s).isSome = false := by cases h : (textTab s).isSome <;> simp [h, h8] at hl ⊢
    have h10 : (aggTab s).isSome = false := by cases h : (aggTab s).isSome <;> simp [h, h8, h9] at hl ⊢
    rw [ho, h8, h9, h10]; rfl
end Go.Proofs.YtpcihefhagipmaaGreatDoor
