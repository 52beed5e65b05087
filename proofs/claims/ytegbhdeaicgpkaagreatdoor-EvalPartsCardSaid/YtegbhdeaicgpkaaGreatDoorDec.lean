/-
  The program's functions dec.May, value.Name, value.Err, value.Truth, value.Num, value.Txt: what each answers, for every argument.
-/
import Derived.Test.YtegbhdeaicgpkaaGreatDoorProg
import Derived.Test.YtegbhdeaicgpkaaGreatDoorMaps
import Derived.Test.YtegbhdeaicgpkaaGreatDoorKit
import Derived.Handy
import Derived.Deep.QuietTactic
import Derived.BigQuiet
import Derived.Lib.Hide
namespace Go.Proofs.YtegbhdeaicgpkaaGreatDoor
open Go Go.RowKit

def minI : Int := -9223372036854775808

theorem dec_May (x : Int) (w : World) : Calls Tryz.prog 102 #[.int .i64 x] w fun e w' => e = .returned (.bool (x != minI)) ∧ w = w' := by
  go_enter Tryz.func102, Tryz.ntmps102
  go_wp2
  go_ret
  exact ⟨rfl, rfl⟩

/-- A value of the program's, with its fields. -/
structure V where
  tag : Int
  num : Int
  str : ByteArray
  is : Bool
  code : Int
deriving DecidableEq
def isCode (c : Int) : Bool := decide (1 ≤ c) && decide (c ≤ 8)
def errC (c : Int) : Int := if isCode c then c else 8
def truthG (b : Bool) : V := ⟨3, 0, ⟨#[]⟩, b, 0⟩
def errG (c : Int) : V := ⟨4, 0, ⟨#[]⟩, false, errC c⟩
def numG (x : Int) : V := if x = minI then ⟨4, 0, ⟨#[]⟩, false, 2⟩ else ⟨1, x, ⟨#[]⟩, false, 0⟩
def txtG (s : ByteArray) : V := ⟨2, 0, s, false, 0⟩
def bareG (v : V) : V := ⟨v.tag, if v.tag = 1 then 0 else v.num, if v.tag = 2 then ⟨#[]⟩ else v.str, if v.tag = 3 then false else v.is, if v.tag = 4 then 0 else v.code⟩

def S0 : ByteArray := ⟨#[]⟩
def nameS (c : Nat) : ByteArray := if c = 1 then ⟨#[35, 67, 89, 67, 76, 69, 33]⟩ else if c = 2 then ⟨#[35, 78, 85, 77, 33]⟩ else if c = 3 then ⟨#[35, 68, 73, 86, 33]⟩ else if c = 4 then ⟨#[35, 84, 89, 80, 69, 33]⟩
  else if c = 5 then ⟨#[35, 82, 65, 78, 71, 69, 33]⟩ else if c = 6 then ⟨#[35, 77, 73, 83, 83, 33]⟩ else if c = 7 then ⟨#[35, 76, 79, 78, 71, 33]⟩ else if c = 8 then ⟨#[35, 65, 82, 71, 33]⟩ else ⟨#[]⟩
def namesA : Value := .agg #[.string (nameS 0), .string (nameS 1), .string (nameS 2), .string (nameS 3), .string (nameS 4), .string (nameS 5), .string (nameS 6), .string (nameS 7), .string (nameS 8)]
theorem value_names (w : World) : Calls Tryz.prog 148 #[] w fun e w' => e = .returned namesA ∧ Below w.heap.size w w' := by
  go_enter Tryz.func148, Tryz.ntmps148
  go_wp2
  go_returns
  exact ⟨rfl, by go_grown⟩
theorem idx_names (c : Nat) (h : c ≤ 8) (w : World) : (Instr.index 176 namesA (.int .i64 c)).run Tryz.prog w = .ok (.string (nameS c)) w := by
  have h : c = 0 ∨ c = 1 ∨ c = 2 ∨ c = 3 ∨ c = 4 ∨ c = 5 ∨ c = 6 ∨ c = 7 ∨ c = 8 := by omega
  rcases h with rfl | rfl | rfl | rfl | rfl | rfl | rfl | rfl | rfl
  all_goals (show _ = _; kernel_rfl)
/-- whether a code has a name -/
theorem value_Name (c : Int) (w : World) : Calls Tryz.prog 54 #[.int .i64 c] w fun e w' => e = .returned (.string (nameS c.toNat)) ∧ Below w.heap.size w w' := by
  by_cases h : c < 0 ∨ 8 < c
  · have e : nameS c.toNat = ⟨#[]⟩ := by
      unfold nameS
      rcases h with h | h
      · rw [show c.toNat = 0 by omega]; rfl
      · simp (disch := omega) [show c.toNat ≠ 1 by omega, show c.toNat ≠ 2 by omega, show c.toNat ≠ 3 by omega, show c.toNat ≠ 4 by omega, show c.toNat ≠ 5 by omega, show c.toNat ≠ 6 by omega, show c.toNat ≠ 7 by omega, show c.toNat ≠ 8 by omega]
    rw [e]
    rcases h with h | h
    · go_enter Tryz.func54, Tryz.ntmps54
      go_wp2
      go_ret
      exact ⟨rfl, by go_grown⟩
    · have h0 : ¬ c < 0 := by omega
      go_enter Tryz.func54, Tryz.ntmps54
      go_wp2
      go_ret
      exact ⟨rfl, by go_grown⟩
  · obtain ⟨n, rfl⟩ := Int.eq_ofNat_of_zero_le (show 0 ≤ c by omega)
    have hn : n ≤ 8 := by omega
    have hi := idx_names n hn
    rw [Int.toNat_natCast]
    go_enter Tryz.func54, Tryz.ntmps54
    go_wp2_with (go_at_call 148; refine (value_names _).mono ?_; rintro e w1 ⟨rfl, hb⟩)
    go_ret
    exact ⟨rfl, hb⟩

theorem value_Truth (b : Bool) (w : World) : Calls Tryz.prog 98 #[.bool b] w fun e w' => e = .returned (Value.agg #[Value.int .i64 (truthG b).tag, Value.int .i64 (truthG b).num, Value.string (truthG b).str, Value.bool (truthG b).is, Value.int .i64 (truthG b).code]) ∧ Below w.heap.size w w' := by
  go_enter Tryz.func98, Tryz.ntmps98
  go_wp2
  go_returns
  exact ⟨rfl, (by repeat (first | with_reducible exact Below.refl _ _ | with_reducible assumption | with_reducible refine below_more' ?_ (by go_size) | with_reducible refine bel_alloc ?_ _ (by go_size) | with_reducible refine Below.drew ?_ | with_reducible refine Below.setCell ?_ (by go_size) _ | with_reducible refine below_drewN ?_ _))⟩
theorem value_Txt (s : ByteArray) (w : World) : Calls Tryz.prog 137 #[.string s] w fun e w' => e = .returned (Value.agg #[Value.int .i64 (txtG s).tag, Value.int .i64 (txtG s).num, Value.string (txtG s).str, Value.bool (txtG s).is, Value.int .i64 (txtG s).code]) ∧ Below w.heap.size w w' := by
  go_enter Tryz.func137, Tryz.ntmps137
  go_wp2
  go_returns
  exact ⟨rfl, (by repeat (first | with_reducible exact Below.refl _ _ | with_reducible assumption | with_reducible refine below_more' ?_ (by go_size) | with_reducible refine bel_alloc ?_ _ (by go_size) | with_reducible refine Below.drew ?_ | with_reducible refine Below.setCell ?_ (by go_size) _ | with_reducible refine below_drewN ?_ _))⟩
theorem name_empty (c : Int) : (nameS c.toNat).toList.isEmpty = !isCode c := by
  by_cases h : 1 ≤ c ∧ c ≤ 8
  · have h : c = 1 ∨ c = 2 ∨ c = 3 ∨ c = 4 ∨ c = 5 ∨ c = 6 ∨ c = 7 ∨ c = 8 := by omega
    rcases h with rfl | rfl | rfl | rfl | rfl | rfl | rfl | rfl <;> decide +kernel
  · have e : isCode c = false := by unfold isCode; rw [Bool.and_eq_false_iff]; simp; omega
    rw [e]
    unfold nameS
    simp [show c.toNat ≠ 1 by omega, show c.toNat ≠ 2 by omega, show c.toNat ≠ 3 by omega, show c.toNat ≠ 4 by omega, show c.toNat ≠ 5 by omega, show c.toNat ≠ 6 by omega, show c.toNat ≠ 7 by omega, show c.toNat ≠ 8 by omega]
theorem errC_of (c : Int) (h : (nameS c.toNat).toList.isEmpty = true) : errC c = 8 := by
  rw [name_empty] at h; simp at h; simp [errC, h]
theorem errC_of' (c : Int) (h : (nameS c.toNat).toList.isEmpty = false) : errC c = c := by
  rw [name_empty] at h; simp at h; simp [errC, h]
theorem value_Err (c : Int) (w : World) : Calls Tryz.prog 27 #[.int .i64 c] w fun e w' => e = .returned (Value.agg #[Value.int .i64 (errG c).tag, Value.int .i64 (errG c).num, Value.string (errG c).str, Value.bool (errG c).is, Value.int .i64 (errG c).code]) ∧ Below w.heap.size w w' := by
  go_enter Tryz.func27, Tryz.ntmps27
  go_wp2_with fail
  refine (value_Name _ _).mono ?_
  rintro e w1 ⟨rfl, hb⟩
  obtain ⟨l, n, rfl⟩ := more_of_below hb
  clear hb
  go_wp2
  all_goals go_returns
  · exact ⟨by unfold errG; rw [errC_of c ‹_›], (by repeat (first | with_reducible exact Below.refl _ _ | with_reducible assumption | with_reducible refine below_more' ?_ (by go_size) | with_reducible refine bel_alloc ?_ _ (by go_size) | with_reducible refine Below.drew ?_ | with_reducible refine Below.setCell ?_ (by go_size) _ | with_reducible refine below_drewN ?_ _))⟩
  · exact ⟨by unfold errG; rw [errC_of' c ‹_›], (by repeat (first | with_reducible exact Below.refl _ _ | with_reducible assumption | with_reducible refine below_more' ?_ (by go_size) | with_reducible refine bel_alloc ?_ _ (by go_size) | with_reducible refine Below.drew ?_ | with_reducible refine Below.setCell ?_ (by go_size) _ | with_reducible refine below_drewN ?_ _))⟩
theorem value_Num (x : Int) (w : World) : Calls Tryz.prog 56 #[.int .i64 x] w fun e w' => e = .returned (Value.agg #[Value.int .i64 (numG x).tag, Value.int .i64 (numG x).num, Value.string (numG x).str, Value.bool (numG x).is, Value.int .i64 (numG x).code]) ∧ Below w.heap.size w w' := by
  go_enter Tryz.func56, Tryz.ntmps56
  go_wp2_with (first | (go_at_call 102; refine (dec_May _ _).mono ?_; rintro e w1 ⟨rfl, rfl⟩) | (go_at_call 27; refine (value_Err _ _).mono ?_; rintro e w1 ⟨rfl, hb⟩; obtain ⟨l, n, rfl⟩ := more_of_below hb; clear hb))
  all_goals go_returns
  · have h : (!x != minI) = true := ‹_›
    have e : numG x = errG 2 := by simp at h; unfold numG; rw [if_pos h]; rfl
    exact ⟨by rw [e], (by repeat (first | with_reducible exact Below.refl _ _ | with_reducible assumption | with_reducible refine below_more' ?_ (by go_size) | with_reducible refine bel_alloc ?_ _ (by go_size) | with_reducible refine Below.drew ?_ | with_reducible refine Below.setCell ?_ (by go_size) _ | with_reducible refine below_drewN ?_ _))⟩
  · have h : (!x != minI) = false := ‹_›
    have e : numG x = ⟨1, x, ⟨#[]⟩, false, 0⟩ := by simp at h; unfold numG; rw [if_neg h]
    exact ⟨by rw [e], (by repeat (first | with_reducible exact Below.refl _ _ | with_reducible assumption | with_reducible refine below_more' ?_ (by go_size) | with_reducible refine bel_alloc ?_ _ (by go_size) | with_reducible refine Below.drew ?_ | with_reducible refine Below.setCell ?_ (by go_size) _ | with_reducible refine below_drewN ?_ _))⟩
set_option maxHeartbeats 1000000 in
theorem value_bare (v : V) (w : World) : Calls Tryz.prog 144 #[(Value.agg #[Value.int .i64 (v).tag, Value.int .i64 (v).num, Value.string (v).str, Value.bool (v).is, Value.int .i64 (v).code])] w fun e w' => e = .returned (Value.agg #[Value.int .i64 (bareG v).tag, Value.int .i64 (bareG v).num, Value.string (bareG v).str, Value.bool (bareG v).is, Value.int .i64 (bareG v).code]) ∧ Below w.heap.size w w' := by
  obtain ⟨a, b, s, c, d⟩ := v
  dsimp only
  go_enter Tryz.func144, Tryz.ntmps144
  go_wp2
  all_goals go_returns
  · have h : (a == 1) = true := ‹_›
    have h := eq_of_beq h; subst h
    exact ⟨rfl, (by repeat (first | with_reducible exact Below.refl _ _ | with_reducible assumption | with_reducible refine below_more' ?_ (by go_size) | with_reducible refine bel_alloc ?_ _ (by go_size) | with_reducible refine Below.drew ?_ | with_reducible refine Below.setCell ?_ (by go_size) _ | with_reducible refine below_drewN ?_ _))⟩
  · have h : (a == 2) = true := ‹_›
    have h := eq_of_beq h; subst h
    exact ⟨rfl, (by repeat (first | with_reducible exact Below.refl _ _ | with_reducible assumption | with_reducible refine below_more' ?_ (by go_size) | with_reducible refine bel_alloc ?_ _ (by go_size) | with_reducible refine Below.drew ?_ | with_reducible refine Below.setCell ?_ (by go_size) _ | with_reducible refine below_drewN ?_ _))⟩
  · have h : (a == 3) = true := ‹_›
    have h := eq_of_beq h; subst h
    exact ⟨rfl, (by repeat (first | with_reducible exact Below.refl _ _ | with_reducible assumption | with_reducible refine below_more' ?_ (by go_size) | with_reducible refine bel_alloc ?_ _ (by go_size) | with_reducible refine Below.drew ?_ | with_reducible refine Below.setCell ?_ (by go_size) _ | with_reducible refine below_drewN ?_ _))⟩
  · have h : (a == 4) = true := ‹_›
    have h := eq_of_beq h; subst h
    exact ⟨rfl, (by repeat (first | with_reducible exact Below.refl _ _ | with_reducible assumption | with_reducible refine below_more' ?_ (by go_size) | with_reducible refine bel_alloc ?_ _ (by go_size) | with_reducible refine Below.drew ?_ | with_reducible refine Below.setCell ?_ (by go_size) _ | with_reducible refine below_drewN ?_ _))⟩
  · have h1 : a ≠ 1 := ne_of_beq_false ‹_›
    have h2 : a ≠ 2 := ne_of_beq_false ‹_›
    have h3 : a ≠ 3 := ne_of_beq_false ‹_›
    have h4 : a ≠ 4 := ne_of_beq_false ‹_›
    exact ⟨by simp [bareG, h1, h2, h3, h4], (by repeat (first | with_reducible exact Below.refl _ _ | with_reducible assumption | with_reducible refine below_more' ?_ (by go_size) | with_reducible refine bel_alloc ?_ _ (by go_size) | with_reducible refine Below.drew ?_ | with_reducible refine Below.setCell ?_ (by go_size) _ | with_reducible refine below_drewN ?_ _))⟩
end Go.Proofs.YtegbhdeaicgpkaaGreatDoor
