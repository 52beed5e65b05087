/-
  eval.number and eval.sums: what each answers.
-/
import Derived.Test.YtegbhdeaicgpkaaGreatDoorOpsE
import Derived.Test.YtegbhdeaicgpkaaGreatDoorEvalB
namespace Go.Proofs.YtegbhdeaicgpkaaGreatDoor
open Go Go.RowKit

theorem asNum_64 (v : V) (h : Is64 v.num) : Is64 (asNumG v).1 := by
  unfold asNumG
  repeat' split
  all_goals first | exact h | exact (show Is64 0 by unfold Is64; decide) | exact (show Is64 10000 by unfold Is64; decide)
theorem eval_number (n c : Int) (w : World) : Calls Tryz.prog 133 #[.int .i64 n, .int .i64 c] w fun e w' => e = .returned (Value.agg #[Value.int .i64 (numC (n, c)).tag, Value.int .i64 (numC (n, c)).num, Value.string (numC (n, c)).str, Value.bool (numC (n, c)).is, Value.int .i64 (numC (n, c)).code]) ∧ Below w.heap.size w w' := by
  by_cases h : c = 0
  · subst h
    rw [show numC (n, 0) = numG n from if_neg (fun h => h rfl)]
    exact eval_number_ok n w
  · rw [show numC (n, c) = errG c from if_pos h]
    have h1 : (c != 0) = true := by simp [h]
    go_enter Tryz.func133, Tryz.ntmps133
    go_wp2_with (go_at_call 27; refine (value_Err c _).mono ?_; rintro e w1 ⟨rfl, hb⟩; obtain ⟨l, m, rfl⟩ := more_of_below hb; clear hb)
    go_returns
    exact ⟨rfl, (by repeat (first | with_reducible exact Below.refl _ _ | with_reducible assumption | with_reducible refine below_more' ?_ (by go_size) | with_reducible refine bel_alloc ?_ _ (by go_size) | with_reducible refine Below.drew ?_ | with_reducible refine Below.setCell ?_ (by go_size) _ | with_reducible refine below_drewN ?_ _))⟩
theorem eval_sums (op : Int) (hop : 3 ≤ op) (hop2 : op ≤ 6) (a b : V) (ha : Is64 a.num) (hb : Is64 b.num) (w : World) : Calls Tryz.prog 136 #[.int .i64 op, (Value.agg #[Value.int .i64 (a).tag, Value.int .i64 (a).num, Value.string (a).str, Value.bool (a).is, Value.int .i64 (a).code]), (Value.agg #[Value.int .i64 (b).tag, Value.int .i64 (b).num, Value.string (b).str, Value.bool (b).is, Value.int .i64 (b).code])] w fun e w' => e = .returned (Value.agg #[Value.int .i64 (sumsG op a b).tag, Value.int .i64 (sumsG op a b).num, Value.string (sumsG op a b).str, Value.bool (sumsG op a b).is, Value.int .i64 (sumsG op a b).code]) ∧ Below w.heap.size w w' := by
  have ix := asNum_64 a ha
  have iy := asNum_64 b hb
  obtain ⟨x, c, ex⟩ : ∃ x c, asNumG a = (x, c) := ⟨_, _, rfl⟩
  obtain ⟨y, d, ey⟩ : ∃ y d, asNumG b = (y, d) := ⟨_, _, rfl⟩
  have es : sumsG op a b = if c ≠ 0 then errG c else if d ≠ 0 then errG d else numC (opX op x y) := by
    unfold sumsG
    rw [ex, ey]
  rw [ex] at ix
  rw [ey] at iy
  have EX := Lib.hid ex
  have EY := Lib.hid ey
  have IX := Lib.hid ix
  have IY := Lib.hid iy
  clear ex ey ix iy ha hb
  by_cases hc : c = 0
  · by_cases hd : d = 0
    · subst hc
      subst hd
      rw [show sumsG op a b = numC (opX op x y) by rw [es]; rfl]
      clear es
      have h : op = 3 ∨ op = 4 ∨ op = 5 ∨ op = 6 := by omega
      clear hop hop2
      rcases h with rfl | rfl | rfl | rfl
      · rw [show opX 3 x y = mulX x y from rfl]
        go_enter Tryz.func136, Tryz.ntmps136
        go_wp2_with (first
          | (go_at_call_of 31 (Value.agg #[Value.int .i64 (a).tag, Value.int .i64 (a).num, Value.string (a).str, Value.bool (a).is, Value.int .i64 (a).code]); refine (value_AsNumber a _).mono ?_; rw [EX.out]; rintro e w1 ⟨rfl, hb⟩; obtain ⟨l, m, rfl⟩ := more_of_below hb; clear hb)
          | (go_at_call_of 31 (Value.agg #[Value.int .i64 (b).tag, Value.int .i64 (b).num, Value.string (b).str, Value.bool (b).is, Value.int .i64 (b).code]); refine (value_AsNumber b _).mono ?_; rw [EY.out]; rintro e w1 ⟨rfl, hb⟩; obtain ⟨l, m, rfl⟩ := more_of_below hb; clear hb)
          | (go_at_call 183; refine (dec_Mul x y IX.out IY.out _).mono ?_; rintro e w1 ⟨rfl, hb⟩; obtain ⟨l, m, rfl⟩ := more_of_below hb; clear hb)
          | (go_at_call 133; refine (eval_number _ _ _).mono ?_; rintro e w1 ⟨rfl, hb⟩; obtain ⟨l, m, rfl⟩ := more_of_below hb; clear hb))
        go_returns
        exact ⟨rfl, (by repeat (first | with_reducible exact Below.refl _ _ | with_reducible assumption | with_reducible refine below_more' ?_ (by go_size) | with_reducible refine bel_alloc ?_ _ (by go_size) | with_reducible refine Below.drew ?_ | with_reducible refine Below.setCell ?_ (by go_size) _ | with_reducible refine below_drewN ?_ _))⟩
      · rw [show opX 4 x y = divX x y from rfl]
        go_enter Tryz.func136, Tryz.ntmps136
        go_wp2_with (first
          | (go_at_call_of 31 (Value.agg #[Value.int .i64 (a).tag, Value.int .i64 (a).num, Value.string (a).str, Value.bool (a).is, Value.int .i64 (a).code]); refine (value_AsNumber a _).mono ?_; rw [EX.out]; rintro e w1 ⟨rfl, hb⟩; obtain ⟨l, m, rfl⟩ := more_of_below hb; clear hb)
          | (go_at_call_of 31 (Value.agg #[Value.int .i64 (b).tag, Value.int .i64 (b).num, Value.string (b).str, Value.bool (b).is, Value.int .i64 (b).code]); refine (value_AsNumber b _).mono ?_; rw [EY.out]; rintro e w1 ⟨rfl, hb⟩; obtain ⟨l, m, rfl⟩ := more_of_below hb; clear hb)
          | (go_at_call 135; refine (dec_Div x y IX.out IY.out _).mono ?_; rintro e w1 ⟨rfl, hb⟩; obtain ⟨l, m, rfl⟩ := more_of_below hb; clear hb)
          | (go_at_call 133; refine (eval_number _ _ _).mono ?_; rintro e w1 ⟨rfl, hb⟩; obtain ⟨l, m, rfl⟩ := more_of_below hb; clear hb))
        go_returns
        exact ⟨rfl, (by repeat (first | with_reducible exact Below.refl _ _ | with_reducible assumption | with_reducible refine below_more' ?_ (by go_size) | with_reducible refine bel_alloc ?_ _ (by go_size) | with_reducible refine Below.drew ?_ | with_reducible refine Below.setCell ?_ (by go_size) _ | with_reducible refine below_drewN ?_ _))⟩
      · rw [show opX 5 x y = addX x y from rfl]
        go_enter Tryz.func136, Tryz.ntmps136
        go_wp2_with (first
          | (go_at_call_of 31 (Value.agg #[Value.int .i64 (a).tag, Value.int .i64 (a).num, Value.string (a).str, Value.bool (a).is, Value.int .i64 (a).code]); refine (value_AsNumber a _).mono ?_; rw [EX.out]; rintro e w1 ⟨rfl, hb⟩; obtain ⟨l, m, rfl⟩ := more_of_below hb; clear hb)
          | (go_at_call_of 31 (Value.agg #[Value.int .i64 (b).tag, Value.int .i64 (b).num, Value.string (b).str, Value.bool (b).is, Value.int .i64 (b).code]); refine (value_AsNumber b _).mono ?_; rw [EY.out]; rintro e w1 ⟨rfl, hb⟩; obtain ⟨l, m, rfl⟩ := more_of_below hb; clear hb)
          | (go_at_call 199; refine (dec_Add x y IX.out IY.out _).mono ?_; rintro e w1 ⟨rfl, rfl⟩)
          | (go_at_call 133; refine (eval_number _ _ _).mono ?_; rintro e w1 ⟨rfl, hb⟩; obtain ⟨l, m, rfl⟩ := more_of_below hb; clear hb))
        go_returns
        exact ⟨rfl, (by repeat (first | with_reducible exact Below.refl _ _ | with_reducible assumption | with_reducible refine below_more' ?_ (by go_size) | with_reducible refine bel_alloc ?_ _ (by go_size) | with_reducible refine Below.drew ?_ | with_reducible refine Below.setCell ?_ (by go_size) _ | with_reducible refine below_drewN ?_ _))⟩
      · rw [show opX 6 x y = subX x y from rfl]
        go_enter Tryz.func136, Tryz.ntmps136
        go_wp2_with (first
          | (go_at_call_of 31 (Value.agg #[Value.int .i64 (a).tag, Value.int .i64 (a).num, Value.string (a).str, Value.bool (a).is, Value.int .i64 (a).code]); refine (value_AsNumber a _).mono ?_; rw [EX.out]; rintro e w1 ⟨rfl, hb⟩; obtain ⟨l, m, rfl⟩ := more_of_below hb; clear hb)
          | (go_at_call_of 31 (Value.agg #[Value.int .i64 (b).tag, Value.int .i64 (b).num, Value.string (b).str, Value.bool (b).is, Value.int .i64 (b).code]); refine (value_AsNumber b _).mono ?_; rw [EY.out]; rintro e w1 ⟨rfl, hb⟩; obtain ⟨l, m, rfl⟩ := more_of_below hb; clear hb)
          | (go_at_call 149; refine (dec_Sub x y IX.out IY.out _).mono ?_; rintro e w1 ⟨rfl, rfl⟩)
          | (go_at_call 133; refine (eval_number _ _ _).mono ?_; rintro e w1 ⟨rfl, hb⟩; obtain ⟨l, m, rfl⟩ := more_of_below hb; clear hb))
        go_returns
        exact ⟨rfl, (by repeat (first | with_reducible exact Below.refl _ _ | with_reducible assumption | with_reducible refine below_more' ?_ (by go_size) | with_reducible refine bel_alloc ?_ _ (by go_size) | with_reducible refine Below.drew ?_ | with_reducible refine Below.setCell ?_ (by go_size) _ | with_reducible refine below_drewN ?_ _))⟩
    · subst hc
      rw [show sumsG op a b = errG d by rw [es, if_neg (fun h => h rfl), if_pos hd]]
      have hd1 : (d != 0) = true := by simp [hd]
      clear es hd hop hop2
      go_enter Tryz.func136, Tryz.ntmps136
      go_wp2_with (first
        | (go_at_call_of 31 (Value.agg #[Value.int .i64 (a).tag, Value.int .i64 (a).num, Value.string (a).str, Value.bool (a).is, Value.int .i64 (a).code]); refine (value_AsNumber a _).mono ?_; rw [EX.out]; rintro e w1 ⟨rfl, hb⟩; obtain ⟨l, m, rfl⟩ := more_of_below hb; clear hb)
        | (go_at_call_of 31 (Value.agg #[Value.int .i64 (b).tag, Value.int .i64 (b).num, Value.string (b).str, Value.bool (b).is, Value.int .i64 (b).code]); refine (value_AsNumber b _).mono ?_; rw [EY.out]; rintro e w1 ⟨rfl, hb⟩; obtain ⟨l, m, rfl⟩ := more_of_below hb; clear hb)
        | (go_at_call 27; refine (value_Err d _).mono ?_; rintro e w1 ⟨rfl, hb⟩; obtain ⟨l, m, rfl⟩ := more_of_below hb; clear hb))
      go_returns
      exact ⟨rfl, (by repeat (first | with_reducible exact Below.refl _ _ | with_reducible assumption | with_reducible refine below_more' ?_ (by go_size) | with_reducible refine bel_alloc ?_ _ (by go_size) | with_reducible refine Below.drew ?_ | with_reducible refine Below.setCell ?_ (by go_size) _ | with_reducible refine below_drewN ?_ _))⟩
  · rw [show sumsG op a b = errG c by rw [es, if_pos hc]]
    have hc1 : (c != 0) = true := by simp [hc]
    clear es hc hop hop2
    go_enter Tryz.func136, Tryz.ntmps136
    go_wp2_with (first
      | (go_at_call_of 31 (Value.agg #[Value.int .i64 (a).tag, Value.int .i64 (a).num, Value.string (a).str, Value.bool (a).is, Value.int .i64 (a).code]); refine (value_AsNumber a _).mono ?_; rw [EX.out]; rintro e w1 ⟨rfl, hb⟩; obtain ⟨l, m, rfl⟩ := more_of_below hb; clear hb)
      | (go_at_call 27; refine (value_Err c _).mono ?_; rintro e w1 ⟨rfl, hb⟩; obtain ⟨l, m, rfl⟩ := more_of_below hb; clear hb))
    go_returns
    exact ⟨rfl, (by repeat (first | with_reducible exact Below.refl _ _ | with_reducible assumption | with_reducible refine below_more' ?_ (by go_size) | with_reducible refine bel_alloc ?_ _ (by go_size) | with_reducible refine Below.drew ?_ | with_reducible refine Below.setCell ?_ (by go_size) _ | with_reducible refine below_drewN ?_ _))⟩
end Go.Proofs.YtegbhdeaicgpkaaGreatDoor
