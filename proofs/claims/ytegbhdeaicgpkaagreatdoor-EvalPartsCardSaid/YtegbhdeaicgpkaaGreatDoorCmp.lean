/-
  value.Compare: which of two values stands ahead.
-/
import Derived.Test.YtegbhdeaicgpkaaGreatDoorOpL
import Derived.Test.YtegbhdeaicgpkaaGreatDoorShelfNum
namespace Go.Proofs.YtegbhdeaicgpkaaGreatDoor
open Go Go.RowKit

theorem cmp_Tag (x y : Int) (w : World) : Calls Tryz.prog 241 #[.int .i64 x, .int .i64 y] w fun e w' => e = .returned (.int .i64 (cmpI x y)) ∧ w = w' := by
  unfold cmpI
  by_cases h1 : x < y
  · rw [if_pos h1]
    go_enter Tryz.func241, Tryz.ntmps241
    go_wp2
    go_ret
    exact ⟨rfl, rfl⟩
  · rw [if_neg h1]
    by_cases h2 : y < x
    · rw [if_pos h2]
      go_enter Tryz.func241, Tryz.ntmps241
      go_wp2
      go_ret
      exact ⟨rfl, rfl⟩
    · rw [if_neg h2]
      go_enter Tryz.func241, Tryz.ntmps241
      go_wp2
      go_ret
      exact ⟨rfl, rfl⟩
theorem cmp_64 (x y : Int) (w : World) : Calls Tryz.prog 242 #[.int .i64 x, .int .i64 y] w fun e w' => e = .returned (.int .i64 (cmpI x y)) ∧ w = w' := by
  unfold cmpI
  by_cases h1 : x < y
  · rw [if_pos h1]
    go_enter Tryz.func242, Tryz.ntmps242
    go_wp2
    go_ret
    exact ⟨rfl, rfl⟩
  · rw [if_neg h1]
    by_cases h2 : y < x
    · rw [if_pos h2]
      go_enter Tryz.func242, Tryz.ntmps242
      go_wp2
      go_ret
      exact ⟨rfl, rfl⟩
    · rw [if_neg h2]
      go_enter Tryz.func242, Tryz.ntmps242
      go_wp2
      go_ret
      exact ⟨rfl, rfl⟩
theorem cmpV_no {a b : V} (h : mayG a = false ∨ mayG b = false ∨ a.tag = 4 ∨ b.tag = 4) : cmpV a b = 0 := if_pos h
theorem value_Compare_no (a b : V) (h : mayG a = false ∨ mayG b = false ∨ a.tag = 4 ∨ b.tag = 4) (w : World) : Calls Tryz.prog 200 #[(Value.agg #[Value.int .i64 (a).tag, Value.int .i64 (a).num, Value.string (a).str, Value.bool (a).is, Value.int .i64 (a).code]), (Value.agg #[Value.int .i64 (b).tag, Value.int .i64 (b).num, Value.string (b).str, Value.bool (b).is, Value.int .i64 (b).code])] w fun e w' => e = .returned (.int .i64 (cmpV a b)) ∧ Below w.heap.size w w' := by
  rw [cmpV_no h]
  by_cases h1 : mayG a = false
  · clear h
    go_enter Tryz.func200, Tryz.ntmps200
    go_wp2_with (first
      | (go_at_call_of 50 (Value.agg #[Value.int .i64 (a).tag, Value.int .i64 (a).num, Value.string (a).str, Value.bool (a).is, Value.int .i64 (a).code]); refine (value_May a _).mono ?_; rintro e w1 ⟨rfl, hb⟩; obtain ⟨l, m, rfl⟩ := more_of_below hb; clear hb)
      | (go_at_call_of 50 (Value.agg #[Value.int .i64 (b).tag, Value.int .i64 (b).num, Value.string (b).str, Value.bool (b).is, Value.int .i64 (b).code]); refine (value_May b _).mono ?_; rintro e w1 ⟨rfl, hb⟩; obtain ⟨l, m, rfl⟩ := more_of_below hb; clear hb))
    go_ret
    exact ⟨rfl, (by repeat (first | with_reducible exact Below.refl _ _ | with_reducible assumption | with_reducible refine below_more' ?_ (by go_size) | with_reducible refine bel_alloc ?_ _ (by go_size) | with_reducible refine Below.drew ?_ | with_reducible refine Below.setCell ?_ (by go_size) _ | with_reducible refine below_drewN ?_ _))⟩
  replace h1 : mayG a = true := by simpa using h1
  by_cases h2 : mayG b = false
  · clear h
    go_enter Tryz.func200, Tryz.ntmps200
    go_wp2_with (first
      | (go_at_call_of 50 (Value.agg #[Value.int .i64 (a).tag, Value.int .i64 (a).num, Value.string (a).str, Value.bool (a).is, Value.int .i64 (a).code]); refine (value_May a _).mono ?_; rintro e w1 ⟨rfl, hb⟩; obtain ⟨l, m, rfl⟩ := more_of_below hb; clear hb)
      | (go_at_call_of 50 (Value.agg #[Value.int .i64 (b).tag, Value.int .i64 (b).num, Value.string (b).str, Value.bool (b).is, Value.int .i64 (b).code]); refine (value_May b _).mono ?_; rintro e w1 ⟨rfl, hb⟩; obtain ⟨l, m, rfl⟩ := more_of_below hb; clear hb))
    go_ret
    exact ⟨rfl, (by repeat (first | with_reducible exact Below.refl _ _ | with_reducible assumption | with_reducible refine below_more' ?_ (by go_size) | with_reducible refine bel_alloc ?_ _ (by go_size) | with_reducible refine Below.drew ?_ | with_reducible refine Below.setCell ?_ (by go_size) _ | with_reducible refine below_drewN ?_ _))⟩
  replace h2 : mayG b = true := by simpa using h2
  by_cases h3 : a.tag = 4
  · have k3 : (a.tag == 4) = true := by simp [h3]
    clear h h3
    go_enter Tryz.func200, Tryz.ntmps200
    go_wp2_with (first
      | (go_at_call_of 50 (Value.agg #[Value.int .i64 (a).tag, Value.int .i64 (a).num, Value.string (a).str, Value.bool (a).is, Value.int .i64 (a).code]); refine (value_May a _).mono ?_; rintro e w1 ⟨rfl, hb⟩; obtain ⟨l, m, rfl⟩ := more_of_below hb; clear hb)
      | (go_at_call_of 50 (Value.agg #[Value.int .i64 (b).tag, Value.int .i64 (b).num, Value.string (b).str, Value.bool (b).is, Value.int .i64 (b).code]); refine (value_May b _).mono ?_; rintro e w1 ⟨rfl, hb⟩; obtain ⟨l, m, rfl⟩ := more_of_below hb; clear hb))
    go_ret
    exact ⟨rfl, (by repeat (first | with_reducible exact Below.refl _ _ | with_reducible assumption | with_reducible refine below_more' ?_ (by go_size) | with_reducible refine bel_alloc ?_ _ (by go_size) | with_reducible refine Below.drew ?_ | with_reducible refine Below.setCell ?_ (by go_size) _ | with_reducible refine below_drewN ?_ _))⟩
  have h4 : b.tag = 4 := by simpa [h1, h2, h3] using h
  have k3 : (a.tag == 4) = false := by simp [h3]
  have k4 : (b.tag == 4) = true := by simp [h4]
  clear h h3 h4
  go_enter Tryz.func200, Tryz.ntmps200
  go_wp2_with (first
    | (go_at_call_of 50 (Value.agg #[Value.int .i64 (a).tag, Value.int .i64 (a).num, Value.string (a).str, Value.bool (a).is, Value.int .i64 (a).code]); refine (value_May a _).mono ?_; rintro e w1 ⟨rfl, hb⟩; obtain ⟨l, m, rfl⟩ := more_of_below hb; clear hb)
    | (go_at_call_of 50 (Value.agg #[Value.int .i64 (b).tag, Value.int .i64 (b).num, Value.string (b).str, Value.bool (b).is, Value.int .i64 (b).code]); refine (value_May b _).mono ?_; rintro e w1 ⟨rfl, hb⟩; obtain ⟨l, m, rfl⟩ := more_of_below hb; clear hb))
  go_ret
  exact ⟨rfl, (by repeat (first | with_reducible exact Below.refl _ _ | with_reducible assumption | with_reducible refine below_more' ?_ (by go_size) | with_reducible refine bel_alloc ?_ _ (by go_size) | with_reducible refine Below.drew ?_ | with_reducible refine Below.setCell ?_ (by go_size) _ | with_reducible refine below_drewN ?_ _))⟩
theorem value_Compare_yes (a b : V) (h1 : mayG a = true) (h2 : mayG b = true) (h3 : a.tag ≠ 4) (h4 : b.tag ≠ 4) (w : World) : Calls Tryz.prog 200 #[(Value.agg #[Value.int .i64 (a).tag, Value.int .i64 (a).num, Value.string (a).str, Value.bool (a).is, Value.int .i64 (a).code]), (Value.agg #[Value.int .i64 (b).tag, Value.int .i64 (b).num, Value.string (b).str, Value.bool (b).is, Value.int .i64 (b).code])] w fun e w' => e = .returned (.int .i64 (cmpV a b)) ∧ Below w.heap.size w w' := by
  have k3 : (a.tag == 4) = false := by simp [h3]
  have k4 : (b.tag == 4) = false := by simp [h4]
  have ta := truthI_nonneg a.is
  have tb := truthI_nonneg b.is
  have ta' := truthI_le a.is
  have tb' := truthI_le b.is
  have e := cmpV_of (by simp [h1]) (by simp [h2]) h3 h4
  have E := Lib.hid e
  clear e h3 h4
  go_enter Tryz.func200, Tryz.ntmps200
  go_wp2_with (first
    | (go_at_call_of 50 (Value.agg #[Value.int .i64 (a).tag, Value.int .i64 (a).num, Value.string (a).str, Value.bool (a).is, Value.int .i64 (a).code]); refine (value_May a _).mono ?_; rintro e w1 ⟨rfl, hb⟩; obtain ⟨l, m, rfl⟩ := more_of_below hb; clear hb)
    | (go_at_call_of 50 (Value.agg #[Value.int .i64 (b).tag, Value.int .i64 (b).num, Value.string (b).str, Value.bool (b).is, Value.int .i64 (b).code]); refine (value_May b _).mono ?_; rintro e w1 ⟨rfl, hb⟩; obtain ⟨l, m, rfl⟩ := more_of_below hb; clear hb)
    | (go_at_call 241; refine (cmp_Tag _ _ _).mono ?_; rintro e w1 ⟨rfl, rfl⟩)
    | (go_at_call 242; refine (cmp_64 _ _ _).mono ?_; rintro e w1 ⟨rfl, rfl⟩)
    | (go_at_call 243; refine (Tryz.strings_Compare _ _ _).mono ?_; rintro e w1 ⟨rfl, rfl⟩))
  all_goals try (go_region_held3 (fun w' => w'.cell? ⟨w.heap.size, 3, none⟩ = some (.bool a.is) ∧ w'.cell? ⟨w.heap.size + 1, 3, none⟩ = some (.bool b.is)) (first | (go_keep; done) | (refine ⟨?_, ?_⟩ <;> (go_simp; done)) | (refine ⟨?_, ?_⟩ <;> (simp; done))) (first | (go_at_call 79; refine (value_truth _ _).mono ?_; rintro e w1 ⟨rfl, rfl⟩)))
  all_goals go_wp2
  all_goals go_ret
  all_goals refine ⟨?_, (by repeat (first | with_reducible exact Below.refl _ _ | with_reducible assumption | with_reducible refine below_more' ?_ (by go_size) | with_reducible refine bel_alloc ?_ _ (by go_size) | with_reducible refine Below.drew ?_ | with_reducible refine Below.setCell ?_ (by go_size) _ | with_reducible refine below_drewN ?_ _))⟩
  all_goals have e := E.out
  all_goals refine congrArg (fun x => Ending.returned (Value.int .i64 x)) (?_ : _ = _)
  all_goals clear E
  all_goals (rw [e]; simp_all [tagX]; try (rw [IntKind.wrap_i64]; omega))
theorem value_Compare (a b : V) (w : World) : Calls Tryz.prog 200 #[(Value.agg #[Value.int .i64 (a).tag, Value.int .i64 (a).num, Value.string (a).str, Value.bool (a).is, Value.int .i64 (a).code]), (Value.agg #[Value.int .i64 (b).tag, Value.int .i64 (b).num, Value.string (b).str, Value.bool (b).is, Value.int .i64 (b).code])] w fun e w' => e = .returned (.int .i64 (cmpV a b)) ∧ Below w.heap.size w w' := by
  by_cases h : mayG a = false ∨ mayG b = false ∨ a.tag = 4 ∨ b.tag = 4
  · exact value_Compare_no a b h w
  · have h1 : mayG a = true := by
      cases h1 : mayG a
      · exact absurd (.inl h1) h
      · rfl
    have h2 : mayG b = true := by
      cases h2 : mayG b
      · exact absurd (.inr (.inl h2)) h
      · rfl
    exact value_Compare_yes a b h1 h2 (fun e => h (.inr (.inr (.inl e)))) (fun e => h (.inr (.inr (.inr e)))) w
end Go.Proofs.YtegbhdeaicgpkaaGreatDoor
