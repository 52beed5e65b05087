/-
  The table: Takes.
-/
import Derived.Test.YtpcihefhagipmaaGreatDoorTab
namespace Go.Proofs.YtpcihefhagipmaaGreatDoor
open Go Go.RowKit

theorem singles1 (pl pm : Nat) (x y : Int) (A : Option Addr) (n c : Nat) (xs : List Bool) (w : World) (B : Nat) (h1 : w.cell? ⟨pl, 0, none⟩ = some (.int .i64 x)) (h2 : w.cell? ⟨pm, 0, none⟩ = some (.int .i64 y))
    (hr : Reads w B 1 A n (xs.map Value.bool)) (hm : n ≤ 9223372036854775807) :
    Calls Tryz.prog 113 #[.slice A n c, .pointer (some ⟨pl, 0, none⟩), .pointer (some ⟨pm, 0, none⟩)] w fun e w' => e = .returned (.bool (between x y n && !hasTrue xs)) ∧ Below w.heap.size w w' := by
  by_cases hx : x ≤ n
  · by_cases hy : n ≤ y
    · have e : (between x y n && !hasTrue xs) = !hasTrue xs := by simp [between, hx, hy]
      rw [e]
      clear e
      go_enter Tryz.func113, Tryz.ntmps113
      go_wp2_with fail
      refine (contains_bools A n c B xs _ (hr.keeps (by repeat (first | with_reducible exact keeps_refl _ | with_reducible assumption | with_reducible refine keeps_alloc ?_ _ | with_reducible refine keeps_more ?_ _ _ | with_reducible refine keeps_drew ?_ | with_reducible refine keeps_drewN ?_ _))) hm).mono ?_
      rintro e w1 ⟨rfl, rfl⟩
      clear hr
      go_wp2
      go_ret
      exact ⟨rfl, (by repeat (first | with_reducible exact Below.refl _ _ | with_reducible assumption | with_reducible refine below_more' ?_ (by go_size) | with_reducible refine bel_alloc ?_ _ (by go_size) | with_reducible refine Below.drew ?_ | with_reducible refine Below.setCell ?_ (by go_size) _ | with_reducible refine below_drewN ?_ _))⟩
    · have e : (between x y n && !hasTrue xs) = false := by simp [between, hy]
      rw [e]
      clear e hr
      go_enter Tryz.func113, Tryz.ntmps113
      go_wp2
      go_ret
      exact ⟨rfl, (by repeat (first | with_reducible exact Below.refl _ _ | with_reducible assumption | with_reducible refine below_more' ?_ (by go_size) | with_reducible refine bel_alloc ?_ _ (by go_size) | with_reducible refine Below.drew ?_ | with_reducible refine Below.setCell ?_ (by go_size) _ | with_reducible refine below_drewN ?_ _))⟩
  · have e : (between x y n && !hasTrue xs) = false := by simp [between, hx]
    rw [e]
    clear e hr
    go_enter Tryz.func113, Tryz.ntmps113
    go_wp2
    go_ret
    exact ⟨rfl, (by repeat (first | with_reducible exact Below.refl _ _ | with_reducible assumption | with_reducible refine below_more' ?_ (by go_size) | with_reducible refine bel_alloc ?_ _ (by go_size) | with_reducible refine Below.drew ?_ | with_reducible refine Below.setCell ?_ (by go_size) _ | with_reducible refine below_drewN ?_ _))⟩

def layTakes (i : Nat) (s : ByteArray) (xs : List Bool) : Bool := if i = 0 then takesNum s xs else if i = 1 then takesText s xs else takesAgg s xs
theorem made1 (pb pn i : Nat) (s : ByteArray) (A : Option Addr) (n c : Nat) (xs : List Bool) (w : World) (B : Nat) (h1 : w.cell? ⟨pb, 1, none⟩ = some (.func (.func (layFn i 1)) #[] #[])) (h2 : w.cell? ⟨pn, 0, none⟩ = some (.string s))
    (hr : Reads w B 1 A n (xs.map Value.bool)) (hm : n ≤ 9223372036854775807) :
    Calls Tryz.prog 58 #[.slice A n c, .pointer (some ⟨pb, 0, none⟩), .pointer (some ⟨pn, 0, none⟩)] w fun e w' => e = .returned (.bool (layTakes i s xs)) ∧ Below w.heap.size w w' := by
  by_cases i0 : i = 0
  · subst i0
    replace h1 : w.cell? ⟨pb, 1, none⟩ = some (.func (.func 50) #[] #[]) := h1
    go_enter Tryz.func58, Tryz.ntmps58
    go_wp2_with fail
    refine (nums_Takes s A n c xs _ B hr hm).mono ?_
    rintro e w1 ⟨rfl, hb⟩
    go_wp2
    go_ret
    exact ⟨rfl, hb⟩
  · by_cases i1 : i = 1
    · subst i1
      replace h1 : w.cell? ⟨pb, 1, none⟩ = some (.func (.func 53) #[] #[]) := h1
      go_enter Tryz.func58, Tryz.ntmps58
      go_wp2_with fail
      refine (texts_Takes s A n c xs _ B hr hm).mono ?_
      rintro e w1 ⟨rfl, hb⟩
      go_wp2
      go_ret
      exact ⟨rfl, hb⟩
    · have e : layTakes i s xs = takesAgg s xs := by simp [layTakes, i0, i1]
      rw [e]
      have e2 : layFn i 1 = 56 := by simp [layFn, i0, i1]
      rw [e2] at h1
      clear e e2 i0 i1
      go_enter Tryz.func58, Tryz.ntmps58
      go_wp2_with fail
      refine (aggs_Takes s A n c xs _ B hr hm).mono ?_
      rintro e w1 ⟨rfl, hb⟩
      go_wp2
      go_ret
      exact ⟨rfl, hb⟩

/-- What Takes answers. -/
def takesAll (s : ByteArray) (xs : List Bool) : Bool := match ownTab s with
  | some (x, y, _) => between x y xs.length && !hasTrue xs
  | none => match layOf s with
    | some i => layTakes i s xs
    | none => false
theorem ite_key {α : Type} {p : Prop} [Decidable p] {a r : α} {b : Option α} (h : (if p then some a else b) = some r) : p ∨ b = some r := by
  by_cases hp : p
  · exact .inl hp
  · rw [if_neg hp] at h; exact .inr h
theorem own_lay (s : ByteArray) {q : Int × Int × Doer} (h : ownTab s = some q) : layOf s = none := by
  unfold ownTab at h
  iterate 16
    rcases ite_key h with e | h
    · subst e
      decide +kernel
  cases h
theorem lay_known (s : ByteArray) {i : Nat} (h : layOf s = some i) : inFirst 50 s = true := by
  unfold layOf at h
  split at h
  · rename_i hn
    obtain ⟨q, hn⟩ := Option.isSome_iff_exists.1 hn
    unfold numTab at hn
    iterate 16
      rcases ite_key hn with e | hn
      · subst e
        decide +kernel
    cases hn
  · split at h
    · rename_i hn
      obtain ⟨q, hn⟩ := Option.isSome_iff_exists.1 hn
      unfold textTab at hn
      iterate 16
        rcases ite_key hn with e | hn
        · subst e
          decide +kernel
      cases hn
    · split at h
      · rename_i hn
        obtain ⟨q, hn⟩ := Option.isSome_iff_exists.1 hn
        unfold aggTab at hn
        iterate 18
          rcases ite_key hn with e | hn
          · subst e
            decide +kernel
        cases hn
      · cases h
theorem own_known (s : ByteArray) {q : Int × Int × Doer} (h : ownTab s = some q) : isOwn s = true := by
  unfold ownTab at h
  iterate 16
    rcases ite_key h with e | h
    · subst e
      decide +kernel
  cases h
theorem takes_none {s : ByteArray} (h : D1 50 s = false) (xs : List Bool) : takesAll s xs = false := by
  unfold D1 at h
  simp only [Bool.or_eq_false_iff] at h
  unfold takesAll
  cases ho : ownTab s with
  | some q => rw [own_known s ho] at h; cases h.1
  | none =>
    cases hl : layOf s with
    | some i => rw [lay_known s hl] at h; cases h.2
    | none => rfl

/-- An entry's first part, asked. -/
theorem ent_takes {s : ByteArray} {fn fn1 : Fn} {first cap first1 cap1 : Array Value} {w : World} (h : EntE w s (.agg #[.func fn first cap, .func fn1 first1 cap1])) (A : Option Addr) (n c : Nat) (xs : List Bool) (B : Nat)
    (hr : Reads w B 1 A n (xs.map Value.bool)) (hm : n ≤ 9223372036854775807) : ∃ k pa pb, (k = 113 ∨ k = 58) ∧ fn = .func k ∧ first = #[] ∧ cap = #[.pointer (some ⟨pa, 0, none⟩), .pointer (some ⟨pb, 0, none⟩)] ∧
      ∀ w', Below w.heap.size w w' → Calls Tryz.prog k #[.slice A n c, .pointer (some ⟨pa, 0, none⟩), .pointer (some ⟨pb, 0, none⟩)] w' fun e w'' => e = .returned (.bool (takesAll s xs)) ∧ Below w'.heap.size w' w'' := by
  have hlen : xs.length = n := by have := hr.1; simpa using this
  rcases h with ⟨x, y, d, e1, pl, pm, pd, f, ev, h1, h2, _⟩ | ⟨i, e1, pb, pn, ev, h0, h1, h2, h3⟩
  · injection ev with ev
    cases ev
    refine ⟨_, _, _, .inl rfl, rfl, rfl, rfl, fun w' hb => ?_⟩
    have e : takesAll s xs = (between x y n && !hasTrue xs) := by simp [takesAll, e1, hlen]
    rw [e]
    exact singles1 pl pm x y A n c xs w' B ((keeps_below hb).cell _ _ _ h1) ((keeps_below hb).cell _ _ _ h2) (hr.keeps (keeps_below hb)) hm
  · injection ev with ev
    cases ev
    refine ⟨_, _, _, .inr rfl, rfl, rfl, rfl, fun w' hb => ?_⟩
    have ho : ownTab s = none := by
      cases ho : ownTab s with
      | none => rfl
      | some q => rw [own_lay s ho] at e1; cases e1
    have e : takesAll s xs = layTakes i s xs := by simp [takesAll, ho, e1]
    rw [e]
    exact made1 pb pn i s A n c xs w' B ((keeps_below hb).cell _ _ _ h1) ((keeps_below hb).cell _ _ _ h3) (hr.keeps (keeps_below hb)) hm
end Go.Proofs.YtpcihefhagipmaaGreatDoor
