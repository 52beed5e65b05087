/-
  The program's nums.Known, texts.Known, aggs.Known, nums.Takes, texts.Takes: what each answers, for every name and every list.
-/
import Derived.Test.YtpcihefhagipmaaGreatDoorFind
import Derived.Test.YtpcihefhagipmaaGreatDoorFindT
import Derived.Test.YtpcihefhagipmaaGreatDoorFindA
import Derived.Test.YtpcihefhagipmaaGreatDoorBools
namespace Go.Proofs.YtpcihefhagipmaaGreatDoor
open Go Go.RowKit

theorem nums_Known (s : ByteArray) (w : World) : Calls Tryz.prog 49 #[.string s] w fun e w' => e = .returned (.bool (numTab s).isSome) ∧ Below w.heap.size w w' := by
  cases h : numTab s with
  | none =>
    go_enter Tryz.func49, Tryz.ntmps49
    go_wp2_with fail
    refine (nums_find_no s h _).mono ?_
    rintro e w1 ⟨hm, hb⟩
    obtain rfl := hm
    obtain ⟨l, n, rfl⟩ := more_of_below hb
    clear hb h
    go_wp2
    go_ret
    exact ⟨rfl, (by repeat (first | with_reducible exact Below.refl _ _ | with_reducible assumption | with_reducible refine below_more' ?_ (by go_size) | with_reducible refine bel_alloc ?_ _ (by go_size) | with_reducible refine Below.drew ?_ | with_reducible refine Below.setCell ?_ (by go_size) _ | with_reducible refine below_drewN ?_ _))⟩
  | some q =>
    obtain ⟨x, y⟩ := q
    go_enter Tryz.func49, Tryz.ntmps49
    go_wp2_with fail
    refine (nums_find_yes s x y h _).mono ?_
    rintro e w1 ⟨⟨fn, first, cap, rfl, _⟩, hb⟩
    obtain ⟨l, n, rfl⟩ := more_of_below hb
    clear hb h
    go_wp2
    go_ret
    exact ⟨rfl, (by repeat (first | with_reducible exact Below.refl _ _ | with_reducible assumption | with_reducible refine below_more' ?_ (by go_size) | with_reducible refine bel_alloc ?_ _ (by go_size) | with_reducible refine Below.drew ?_ | with_reducible refine Below.setCell ?_ (by go_size) _ | with_reducible refine below_drewN ?_ _))⟩
theorem texts_Known (s : ByteArray) (w : World) : Calls Tryz.prog 52 #[.string s] w fun e w' => e = .returned (.bool (textTab s).isSome) ∧ Below w.heap.size w w' := by
  cases h : textTab s with
  | none =>
    go_enter Tryz.func52, Tryz.ntmps52
    go_wp2_with fail
    refine (texts_find_no s h _).mono ?_
    rintro e w1 ⟨hm, hb⟩
    obtain rfl := hm
    obtain ⟨l, n, rfl⟩ := more_of_below hb
    clear hb h
    go_wp2
    go_ret
    exact ⟨rfl, (by repeat (first | with_reducible exact Below.refl _ _ | with_reducible assumption | with_reducible refine below_more' ?_ (by go_size) | with_reducible refine bel_alloc ?_ _ (by go_size) | with_reducible refine Below.drew ?_ | with_reducible refine Below.setCell ?_ (by go_size) _ | with_reducible refine below_drewN ?_ _))⟩
  | some q =>
    obtain ⟨x, y⟩ := q
    go_enter Tryz.func52, Tryz.ntmps52
    go_wp2_with fail
    refine (texts_find_yes s x y h _).mono ?_
    rintro e w1 ⟨⟨fn, first, cap, rfl, _⟩, hb⟩
    obtain ⟨l, n, rfl⟩ := more_of_below hb
    clear hb h
    go_wp2
    go_ret
    exact ⟨rfl, (by repeat (first | with_reducible exact Below.refl _ _ | with_reducible assumption | with_reducible refine below_more' ?_ (by go_size) | with_reducible refine bel_alloc ?_ _ (by go_size) | with_reducible refine Below.drew ?_ | with_reducible refine Below.setCell ?_ (by go_size) _ | with_reducible refine below_drewN ?_ _))⟩
theorem aggs_Known (s : ByteArray) (w : World) : Calls Tryz.prog 55 #[.string s] w fun e w' => e = .returned (.bool (aggTab s).isSome) ∧ Below w.heap.size w w' := by
  cases h : aggTab s with
  | none =>
    go_enter Tryz.func55, Tryz.ntmps55
    go_wp2_with fail
    refine (aggs_find_no s h _).mono ?_
    rintro e w1 ⟨hm, hb⟩
    obtain rfl := hm
    obtain ⟨l, n, rfl⟩ := more_of_below hb
    clear hb h
    go_wp2
    go_ret
    exact ⟨rfl, (by repeat (first | with_reducible exact Below.refl _ _ | with_reducible assumption | with_reducible refine below_more' ?_ (by go_size) | with_reducible refine bel_alloc ?_ _ (by go_size) | with_reducible refine Below.drew ?_ | with_reducible refine Below.setCell ?_ (by go_size) _ | with_reducible refine below_drewN ?_ _))⟩
  | some q =>
    obtain ⟨c, x, y⟩ := q
    go_enter Tryz.func55, Tryz.ntmps55
    go_wp2_with fail
    refine (aggs_find_yes s c x y h _).mono ?_
    rintro e w1 ⟨⟨fn, first, cap, rfl, _⟩, hb⟩
    obtain ⟨l, n, rfl⟩ := more_of_below hb
    clear hb h
    go_wp2
    go_ret
    exact ⟨rfl, (by repeat (first | with_reducible exact Below.refl _ _ | with_reducible assumption | with_reducible refine below_more' ?_ (by go_size) | with_reducible refine bel_alloc ?_ _ (by go_size) | with_reducible refine Below.drew ?_ | with_reducible refine Below.setCell ?_ (by go_size) _ | with_reducible refine below_drewN ?_ _))⟩

/-- how many arguments of which so many must be there -/
def between (x y : Int) (n : Nat) : Bool := decide (x ≤ n) && decide (n ≤ y)
def takesNum (s : ByteArray) (xs : List Bool) : Bool := match numTab s with
  | some (x, y) => between x y xs.length && !hasTrue xs
  | none => false
def takesText (s : ByteArray) (xs : List Bool) : Bool := match textTab s with
  | some (c, x) => between x c.size xs.length && !hasTrue xs
  | none => false

theorem nums_Takes (s : ByteArray) (A : Option Addr) (n c : Nat) (xs : List Bool) (w : World) (B : Nat) (hr : Reads w B 1 A n (xs.map Value.bool)) (hm : n ≤ 9223372036854775807) :
    Calls Tryz.prog 50 #[.string s, .slice A n c] w fun e w' => e = .returned (.bool (takesNum s xs)) ∧ Below w.heap.size w w' := by
  have hlen : xs.length = n := by have := hr.1; simpa using this
  cases h : numTab s with
  | none =>
    have e : takesNum s xs = false := by simp [takesNum, h]
    rw [e]
    clear hr hm hlen
    go_enter Tryz.func50, Tryz.ntmps50
    go_wp2_with fail
    refine (nums_find_no s h _).mono ?_
    rintro e w1 ⟨hm, hb⟩
    obtain rfl := hm
    obtain ⟨l, n, rfl⟩ := more_of_below hb
    clear hb h e
    go_wp2
    go_ret
    exact ⟨rfl, (by repeat (first | with_reducible exact Below.refl _ _ | with_reducible assumption | with_reducible refine below_more' ?_ (by go_size) | with_reducible refine bel_alloc ?_ _ (by go_size) | with_reducible refine Below.drew ?_ | with_reducible refine Below.setCell ?_ (by go_size) _ | with_reducible refine below_drewN ?_ _))⟩
  | some q =>
    obtain ⟨x, y⟩ := q
    have e : takesNum s xs = (between x y n && !hasTrue xs) := by simp [takesNum, h, hlen]
    rw [e]
    clear hlen e
    by_cases hx : x ≤ n
    · by_cases hy : n ≤ y
      · have e : (between x y n && !hasTrue xs) = !hasTrue xs := by simp [between, hx, hy]
        rw [e]
        clear e
        go_enter Tryz.func50, Tryz.ntmps50
        go_wp2_with fail
        refine (nums_find_yes s x y h _).mono ?_
        rintro e w1 ⟨⟨fn, first, cap, rfl, _⟩, hb⟩
        obtain ⟨l, k, rfl⟩ := more_of_below hb
        clear hb h
        go_wp2_with fail
        refine (contains_bools A n c B xs _ (hr.keeps (by repeat (first | with_reducible exact keeps_refl _ | with_reducible assumption | with_reducible refine keeps_alloc ?_ _ | with_reducible refine keeps_more ?_ _ _ | with_reducible refine keeps_drew ?_ | with_reducible refine keeps_drewN ?_ _))) hm).mono ?_
        rintro e w1 ⟨rfl, rfl⟩
        clear hr
        go_wp2
        go_ret
        exact ⟨rfl, (by repeat (first | with_reducible exact Below.refl _ _ | with_reducible assumption | with_reducible refine below_more' ?_ (by go_size) | with_reducible refine bel_alloc ?_ _ (by go_size) | with_reducible refine Below.drew ?_ | with_reducible refine Below.setCell ?_ (by go_size) _ | with_reducible refine below_drewN ?_ _))⟩
      · have e : (between x y n && !hasTrue xs) = false := by simp [between, hy]
        rw [e]
        clear e hr
        go_enter Tryz.func50, Tryz.ntmps50
        go_wp2_with fail
        refine (nums_find_yes s x y h _).mono ?_
        rintro e w1 ⟨⟨fn, first, cap, rfl, _⟩, hb⟩
        obtain ⟨l, k, rfl⟩ := more_of_below hb
        clear hb h
        go_wp2
        go_ret
        exact ⟨rfl, (by repeat (first | with_reducible exact Below.refl _ _ | with_reducible assumption | with_reducible refine below_more' ?_ (by go_size) | with_reducible refine bel_alloc ?_ _ (by go_size) | with_reducible refine Below.drew ?_ | with_reducible refine Below.setCell ?_ (by go_size) _ | with_reducible refine below_drewN ?_ _))⟩
    · have e : (between x y n && !hasTrue xs) = false := by simp [between, hx]
      rw [e]
      clear e hr
      go_enter Tryz.func50, Tryz.ntmps50
      go_wp2_with fail
      refine (nums_find_yes s x y h _).mono ?_
      rintro e w1 ⟨⟨fn, first, cap, rfl, _⟩, hb⟩
      obtain ⟨l, k, rfl⟩ := more_of_below hb
      clear hb h
      go_wp2
      go_ret
      exact ⟨rfl, (by repeat (first | with_reducible exact Below.refl _ _ | with_reducible assumption | with_reducible refine below_more' ?_ (by go_size) | with_reducible refine bel_alloc ?_ _ (by go_size) | with_reducible refine Below.drew ?_ | with_reducible refine Below.setCell ?_ (by go_size) _ | with_reducible refine below_drewN ?_ _))⟩
theorem texts_Takes (s : ByteArray) (A : Option Addr) (n c : Nat) (xs : List Bool) (w : World) (B : Nat) (hr : Reads w B 1 A n (xs.map Value.bool)) (hm : n ≤ 9223372036854775807) :
    Calls Tryz.prog 53 #[.string s, .slice A n c] w fun e w' => e = .returned (.bool (takesText s xs)) ∧ Below w.heap.size w w' := by
  have hlen : xs.length = n := by have := hr.1; simpa using this
  cases h : textTab s with
  | none =>
    have e : takesText s xs = false := by simp [takesText, h]
    rw [e]
    clear hr hm hlen
    go_enter Tryz.func53, Tryz.ntmps53
    go_wp2_with fail
    refine (texts_find_no s h _).mono ?_
    rintro e w1 ⟨hm, hb⟩
    obtain rfl := hm
    obtain ⟨l, n, rfl⟩ := more_of_below hb
    clear hb h e
    go_wp2
    go_ret
    exact ⟨rfl, (by repeat (first | with_reducible exact Below.refl _ _ | with_reducible assumption | with_reducible refine below_more' ?_ (by go_size) | with_reducible refine bel_alloc ?_ _ (by go_size) | with_reducible refine Below.drew ?_ | with_reducible refine Below.setCell ?_ (by go_size) _ | with_reducible refine below_drewN ?_ _))⟩
  | some q =>
    obtain ⟨y, x⟩ := q
    have e : takesText s xs = (between x y.size n && !hasTrue xs) := by simp [takesText, h, hlen]
    rw [e]
    clear hlen e
    by_cases hx : x ≤ n
    · by_cases hy : n ≤ y.size
      · have e : (between x y.size n && !hasTrue xs) = !hasTrue xs := by simp [between, hx, hy]
        rw [e]
        clear e
        go_enter Tryz.func53, Tryz.ntmps53
        go_wp2_with fail
        refine (texts_find_yes s y x h _).mono ?_
        rintro e w1 ⟨⟨fn, first, cap, rfl, _⟩, hb⟩
        obtain ⟨l, k, rfl⟩ := more_of_below hb
        clear hb h
        go_wp2_with fail
        refine (contains_bools A n c B xs _ (hr.keeps (by repeat (first | with_reducible exact keeps_refl _ | with_reducible assumption | with_reducible refine keeps_alloc ?_ _ | with_reducible refine keeps_more ?_ _ _ | with_reducible refine keeps_drew ?_ | with_reducible refine keeps_drewN ?_ _))) hm).mono ?_
        rintro e w1 ⟨rfl, rfl⟩
        clear hr
        go_wp2
        go_ret
        exact ⟨rfl, (by repeat (first | with_reducible exact Below.refl _ _ | with_reducible assumption | with_reducible refine below_more' ?_ (by go_size) | with_reducible refine bel_alloc ?_ _ (by go_size) | with_reducible refine Below.drew ?_ | with_reducible refine Below.setCell ?_ (by go_size) _ | with_reducible refine below_drewN ?_ _))⟩
      · have e : (between x y.size n && !hasTrue xs) = false := by simp [between, hy]
        rw [e]
        clear e hr
        go_enter Tryz.func53, Tryz.ntmps53
        go_wp2_with fail
        refine (texts_find_yes s y x h _).mono ?_
        rintro e w1 ⟨⟨fn, first, cap, rfl, _⟩, hb⟩
        obtain ⟨l, k, rfl⟩ := more_of_below hb
        clear hb h
        go_wp2
        go_ret
        exact ⟨rfl, (by repeat (first | with_reducible exact Below.refl _ _ | with_reducible assumption | with_reducible refine below_more' ?_ (by go_size) | with_reducible refine bel_alloc ?_ _ (by go_size) | with_reducible refine Below.drew ?_ | with_reducible refine Below.setCell ?_ (by go_size) _ | with_reducible refine below_drewN ?_ _))⟩
    · have e : (between x y.size n && !hasTrue xs) = false := by simp [between, hx]
      rw [e]
      have hd : decide (x ≤ ↑n) = false := by simpa using hx
      clear e hr hx
      go_enter Tryz.func53, Tryz.ntmps53
      go_wp2_with fail
      refine (texts_find_yes s y x h _).mono ?_
      rintro e w1 ⟨⟨fn, first, cap, rfl, _⟩, hb⟩
      obtain ⟨l, k, rfl⟩ := more_of_below hb
      clear hb h
      go_wp2
      all_goals go_ret
      all_goals exact ⟨rfl, (by repeat (first | with_reducible exact Below.refl _ _ | with_reducible assumption | with_reducible refine below_more' ?_ (by go_size) | with_reducible refine bel_alloc ?_ _ (by go_size) | with_reducible refine Below.drew ?_ | with_reducible refine Below.setCell ?_ (by go_size) _ | with_reducible refine below_drewN ?_ _))⟩
end Go.Proofs.YtpcihefhagipmaaGreatDoor
