/-
  The program's value.May, value.AsNumber, value.AsBool: what each answers, for every value.
-/
import Derived.Test.YtegbhdeaicgpkaaGreatDoorDec
import Derived.Deep.RegionWith
import Derived.Deep.RegionHeld3
import Derived.BigGuardPart
namespace Go.Proofs.YtegbhdeaicgpkaaGreatDoor
open Go Go.RowKit

/-- Are two values the same? -/
def eqB (x y : V) : Bool := decide (x = y)
theorem eqlV (a b : Int) (s : ByteArray) (c : Bool) (d : Int) (a' b' : Int) (s' : ByteArray) (c' : Bool) (d' : Int) (w : World) :
    (binOp .eql 29 (.agg #[.int .i64 a, .int .i64 b, .string s, .bool c, .int .i64 d]) (.agg #[.int .i64 a', .int .i64 b', .string s', .bool c', .int .i64 d'])).run Tryz.prog w = .ok (.bool (eqB ⟨a, b, s, c, d⟩ ⟨a', b', s', c', d'⟩)) w := by
  unfold eqB
  rw [run_eql_struct]
  have hs : (s.toList = s'.toList) ↔ s = s' := by
    rw [ByteArray.toList_eq, ByteArray.toList_eq]
    exact ⟨fun h => bytes_inj h, fun h => by rw [h]⟩
  go_simp
  by_cases h1 : a = a' <;> by_cases h2 : b = b' <;> by_cases h3 : s = s' <;> by_cases h4 : c = c' <;> by_cases h5 : d = d' <;> simp [h1, h2, h3, h4, h5, hs]

def mayG (v : V) : Bool := (decide (0 ≤ v.tag) && decide (v.tag ≤ 4)) && eqB (bareG v) ⟨v.tag, 0, ⟨#[]⟩, false, 0⟩ && (if v.tag = 1 then v.num != minI else if v.tag = 4 then isCode v.code else true)

theorem neqV (a b : Int) (s : ByteArray) (c : Bool) (d : Int) (a' b' : Int) (s' : ByteArray) (c' : Bool) (d' : Int) (w : World) :
    (binOp .neq 29 (.agg #[.int .i64 a, .int .i64 b, .string s, .bool c, .int .i64 d]) (.agg #[.int .i64 a', .int .i64 b', .string s', .bool c', .int .i64 d'])).run Tryz.prog w = .ok (.bool (!eqB ⟨a, b, s, c, d⟩ ⟨a', b', s', c', d'⟩)) w := by
  unfold eqB
  rw [run_neq_struct]
  have hs : (s.toList = s'.toList) ↔ s = s' := by
    rw [ByteArray.toList_eq, ByteArray.toList_eq]
    exact ⟨fun h => bytes_inj h, fun h => by rw [h]⟩
  go_simp
  by_cases h1 : a = a' <;> by_cases h2 : b = b' <;> by_cases h3 : s = s' <;> by_cases h4 : c = c' <;> by_cases h5 : d = d' <;> simp [h1, h2, h3, h4, h5, hs]

theorem may0 {v : V} (h : (!eqB ⟨(bareG v).tag, (bareG v).num, (bareG v).str, (bareG v).is, (bareG v).code⟩ ⟨v.tag, 0, ⟨#[]⟩, false, 0⟩) = true) : mayG v = false := by
  have h : (!eqB (bareG v) ⟨v.tag, 0, ⟨#[]⟩, false, 0⟩) = true := h
  simp at h
  simp [mayG, h]
theorem may1 {v : V} (h0 : decide (v.tag < 0) = false) (h4 : decide (4 < v.tag) = false) (h : (!eqB ⟨(bareG v).tag, (bareG v).num, (bareG v).str, (bareG v).is, (bareG v).code⟩ ⟨v.tag, 0, ⟨#[]⟩, false, 0⟩) = false) :
    mayG v = (if v.tag = 1 then v.num != minI else if v.tag = 4 then isCode v.code else true) := by
  have h : (!eqB (bareG v) ⟨v.tag, 0, ⟨#[]⟩, false, 0⟩) = false := h
  simp at h h0 h4
  simp [mayG, h, h0, h4]
theorem value_May (v : V) (w : World) : Calls Tryz.prog 50 #[(Value.agg #[Value.int .i64 (v).tag, Value.int .i64 (v).num, Value.string (v).str, Value.bool (v).is, Value.int .i64 (v).code])] w fun e w' => e = .returned (.bool (mayG v)) ∧ Below w.heap.size w w' := by
  by_cases h0 : v.tag < 0
  · go_enter Tryz.func50, Tryz.ntmps50
    go_wp2
    go_quiet (fail)
    go_wp2
    go_ret
    exact ⟨by simp [mayG, show ¬ 0 ≤ v.tag by omega], (by repeat (first | with_reducible exact Below.refl _ _ | with_reducible assumption | with_reducible refine below_more' ?_ (by go_size) | with_reducible refine bel_alloc ?_ _ (by go_size) | with_reducible refine Below.drew ?_ | with_reducible refine Below.setCell ?_ (by go_size) _ | with_reducible refine below_drewN ?_ _))⟩
  · by_cases h1 : 4 < v.tag
    · go_enter Tryz.func50, Tryz.ntmps50
      go_wp2
      go_quiet (fail)
      go_wp2
      go_ret
      exact ⟨by simp [mayG, show ¬ v.tag ≤ 4 by omega], (by repeat (first | with_reducible exact Below.refl _ _ | with_reducible assumption | with_reducible refine below_more' ?_ (by go_size) | with_reducible refine bel_alloc ?_ _ (by go_size) | with_reducible refine Below.drew ?_ | with_reducible refine Below.setCell ?_ (by go_size) _ | with_reducible refine below_drewN ?_ _))⟩
    · have hq := neqV
      have hd0 : decide (v.tag < 0) = false := by simpa using h0
      have hd1 : decide (4 < v.tag) = false := by simpa using h1
      clear h0 h1
      go_enter Tryz.func50, Tryz.ntmps50
      go_wp2
      go_region_held3 (fun w' => w'.cell? ⟨w.heap.size, 0, none⟩ = some (.int .i64 v.tag) ∧ w'.cell? ⟨w.heap.size, 1, none⟩ = some (.int .i64 v.num) ∧ w'.cell? ⟨w.heap.size, 2, none⟩ = some (.string v.str) ∧ w'.cell? ⟨w.heap.size, 3, none⟩ = some (.bool v.is) ∧ w'.cell? ⟨w.heap.size, 4, none⟩ = some (.int .i64 v.code))
        (first | go_keep | (go_split_ands; refine ⟨?_, ?_, ?_, ?_, ?_⟩ <;> (rw [more_cell (by simp)]; assumption)))
        (first | (go_at_call 144; refine (value_bare _ _).mono ?_; rintro e w1 ⟨rfl, hb⟩; obtain ⟨l, n, rfl⟩ := more_of_below hb; clear hb))
      go_wp2_with (first | (go_at_call 102; refine (dec_May _ _).mono ?_; rintro e w1 ⟨rfl, rfl⟩) | (go_at_call 54; refine (value_Name _ _).mono ?_; rintro e w1 ⟨rfl, hb⟩; obtain ⟨l, n, rfl⟩ := more_of_below hb; clear hb))
      all_goals go_ret
      · exact ⟨by rw [may0 ‹_›]; rfl, (by repeat (first | with_reducible exact Below.refl _ _ | with_reducible assumption | with_reducible refine below_more' ?_ (by go_size) | with_reducible refine bel_alloc ?_ _ (by go_size) | with_reducible refine Below.drew ?_ | with_reducible refine Below.setCell ?_ (by go_size) _ | with_reducible refine below_drewN ?_ _))⟩
      · have h : (v.tag == 1) = true := ‹_›
        exact ⟨by rw [may1 hd0 hd1 ‹_›, if_pos (eq_of_beq h)]; rfl, (by repeat (first | with_reducible exact Below.refl _ _ | with_reducible assumption | with_reducible refine below_more' ?_ (by go_size) | with_reducible refine bel_alloc ?_ _ (by go_size) | with_reducible refine Below.drew ?_ | with_reducible refine Below.setCell ?_ (by go_size) _ | with_reducible refine below_drewN ?_ _))⟩
      · have h1 : (v.tag == 1) = false := ‹_›
        have h : (v.tag == 4) = true := ‹_›
        refine ⟨?_, (by repeat (first | with_reducible exact Below.refl _ _ | with_reducible assumption | with_reducible refine below_more' ?_ (by go_size) | with_reducible refine bel_alloc ?_ _ (by go_size) | with_reducible refine Below.drew ?_ | with_reducible refine Below.setCell ?_ (by go_size) _ | with_reducible refine below_drewN ?_ _))⟩
        rw [may1 hd0 hd1 ‹_›, if_neg (ne_of_beq_false h1), if_pos (eq_of_beq h)]
        show Ending.returned (.bool (!(nameS v.code.toNat).toList.isEmpty)) = _
        rw [name_empty, Bool.not_not]
      · have h1 : (v.tag == 1) = false := ‹_›
        have h : (v.tag == 4) = false := ‹_›
        exact ⟨by rw [may1 hd0 hd1 ‹_›, if_neg (ne_of_beq_false h1), if_neg (ne_of_beq_false h)]; rfl, (by repeat (first | with_reducible exact Below.refl _ _ | with_reducible assumption | with_reducible refine below_more' ?_ (by go_size) | with_reducible refine bel_alloc ?_ _ (by go_size) | with_reducible refine Below.drew ?_ | with_reducible refine Below.setCell ?_ (by go_size) _ | with_reducible refine below_drewN ?_ _))⟩
end Go.Proofs.YtegbhdeaicgpkaaGreatDoor
