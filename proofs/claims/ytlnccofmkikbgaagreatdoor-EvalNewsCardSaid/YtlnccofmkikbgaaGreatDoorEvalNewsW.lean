/-
  EvalNews: which workers are made; without a source nothing is worked out.
-/
import Derived.Test.YtlnccofmkikbgaaGreatDoorLives
namespace Go.Proofs.YtlnccofmkikbgaaGreatDoor
open Go Go.RowKit

theorem fault12 (c : Int) (w : World) : Calls Tryz.prog 9 #[.int .i64 c] w fun e w' => e = .returned (.agg #[.int .i64 4, .int .i64 0, .string ⟨#[]⟩, .bool false, .int .i64 c]) ∧ Below w.heap.size w w' := by
  go_enter Tryz.func9, Tryz.ntmps9
  go_wp2
  exact bodyPost_ret (by simp [results, Tryz.results9, go_sem]; try rfl) rfl ⟨rfl, (by repeat (first | with_reducible exact Below.refl _ _ | with_reducible assumption | with_reducible refine below_more' ?_ (by go_size) | with_reducible refine bel_alloc ?_ _ (by go_size) | with_reducible refine Below.drew ?_ | with_reducible refine Below.setCell ?_ (by go_size) _ | with_reducible refine below_drewN ?_ _))⟩
set_option maxRecDepth 100000 in
theorem work_nil (pe : Nat) (A : Option Addr) (n c : Nat) (w : World) : Calls Tryz.prog 8 #[.pointer (some ⟨pe, 0, none⟩), .agg #[.slice A n c], .nilIface] w fun e w' => e = .returned (Value.agg #[Value.int .i64 (errG 8).tag, Value.int .i64 (errG 8).num, Value.string (errG 8).str, Value.bool (errG 8).is, Value.int .i64 (errG 8).code]) ∧ Below w.heap.size w w' := by
  go_enter Tryz.func8, Tryz.ntmps8
  go_wp2_with (go_at_call 14; refine (value_Err 8 _).mono ?_; rintro e w1 ⟨rfl, hb⟩; obtain ⟨l, m, rfl⟩ := more_of_below hb; clear hb)
  exact bodyPost_ret (by simp [results, Tryz.results8, go_sem]; try rfl) rfl ⟨rfl, (by repeat (first | with_reducible exact Below.refl _ _ | with_reducible assumption | with_reducible refine below_more' ?_ (by go_size) | with_reducible refine bel_alloc ?_ _ (by go_size) | with_reducible refine Below.drew ?_ | with_reducible refine Below.setCell ?_ (by go_size) _ | with_reducible refine below_drewN ?_ _))⟩
theorem ne_r8 (w : World) : (binOp .neq 32 (Value.agg #[Value.int .i64 (errG 8).tag, Value.int .i64 (errG 8).num, Value.string (errG 8).str, Value.bool (errG 8).is, Value.int .i64 (errG 8).code]) (.agg #[.int .i64 4, .int .i64 0, .string ⟨#[]⟩, .bool false, .int .i64 8])).run Tryz.prog w = .ok (.bool false) w := by rw [neqV]; rfl
theorem evalNews_none (text : Int) (A : Option Addr) (n c : Nat) (w : World) : Calls Tryz.prog 3 #[.int .i64 text, .bool true, .agg #[.slice A n c]] w fun e w' => e = .returned (.bool true) ∧ Below w.heap.size w w' := by
  go_enter Tryz.func3, Tryz.ntmps3
  go_wp2_with (first
    | (go_at_call 6; refine (funcs_New0 _).mono ?_; rintro e w1 ⟨rfl, hb, hs⟩; obtain ⟨l, m, rfl⟩ := more_of_below hb; clear hb hs)
    | (go_at_call 7; refine (eval_New_nil text _).mono ?_; rintro e w1 ⟨rfl, rfl⟩)
    | (go_at_call 10; refine (lives0 _).mono ?_; rintro e w1 ⟨rfl, hb⟩; obtain ⟨l2, m2, rfl⟩ := more_of_below hb; clear hb))
  all_goals go_ret
  all_goals exact ⟨rfl, (by repeat (first | with_reducible exact Below.refl _ _ | with_reducible assumption | with_reducible refine below_more' ?_ (by go_size) | with_reducible refine bel_alloc ?_ _ (by go_size) | with_reducible refine Below.drew ?_ | with_reducible refine Below.setCell ?_ (by go_size) _ | with_reducible refine below_drewN ?_ _))⟩
theorem evalNews_out (text : Int) (h : text < 1 ∨ 1024 < text) (A : Option Addr) (n c : Nat) (w : World) : Calls Tryz.prog 3 #[.int .i64 text, .bool false, .agg #[.slice A n c]] w fun e w' => e = .returned (.bool true) ∧ Below w.heap.size w w' := by
  go_enter Tryz.func3, Tryz.ntmps3
  go_wp2_with (first
    | (go_at_call 6; refine (funcs_New0 _).mono ?_; rintro e w1 ⟨rfl, hb, hs⟩; obtain ⟨l, m, rfl⟩ := more_of_below hb; clear hb hs)
    | (go_at_call 7; refine (eval_New_out _ text h _).mono ?_; rintro e w1 ⟨rfl, rfl⟩)
    | (go_at_call 10; refine (lives0 _).mono ?_; rintro e w1 ⟨rfl, hb⟩; obtain ⟨l2, m2, rfl⟩ := more_of_below hb; clear hb))
  all_goals try (exfalso; simp_all; omega)
  all_goals go_ret
  all_goals exact ⟨rfl, (by repeat (first | with_reducible exact Below.refl _ _ | with_reducible assumption | with_reducible refine below_more' ?_ (by go_size) | with_reducible refine bel_alloc ?_ _ (by go_size) | with_reducible refine Below.drew ?_ | with_reducible refine Below.setCell ?_ (by go_size) _ | with_reducible refine below_drewN ?_ _))⟩
theorem evalNews_in (text : Int) (h1 : 1 ≤ text) (h2 : text ≤ 1024) (A : Option Addr) (n c : Nat) (w : World) : Calls Tryz.prog 3 #[.int .i64 text, .bool false, .agg #[.slice A n c]] w fun e w' => e = .returned (.bool true) ∧ Below w.heap.size w w' := by
  have hq := ne_r8
  have h3 : ¬ text < 1 := by omega
  have h4 : ¬ 1024 < text := by omega
  go_enter Tryz.func3, Tryz.ntmps3
  go_wp2_with (first
    | (go_at_call 6; refine (funcs_New0 _).mono ?_; rintro e w1 ⟨rfl, hb, hs⟩; obtain ⟨l, m, rfl⟩ := more_of_below hb; clear hb hs)
    | (go_at_call 7; refine (eval_New _ text h1 h2 _).mono ?_; rintro e w1 ⟨rfl, hE, hb⟩; obtain ⟨l1, m1, rfl⟩ := more_of_below hb; clear hb hE)
    | (go_at_call 8; refine (work_nil _ A n c _).mono ?_; rintro e w1 ⟨rfl, hb⟩; obtain ⟨l3, m3, rfl⟩ := more_of_below hb; clear hb)
    | (go_at_call 9; refine (fault12 8 _).mono ?_; rintro e w1 ⟨rfl, hb⟩; obtain ⟨l4, m4, rfl⟩ := more_of_below hb; clear hb)
    | (go_at_call 10; refine (lives0 _).mono ?_; rintro e w1 ⟨rfl, hb⟩; obtain ⟨l2, m2, rfl⟩ := more_of_below hb; clear hb))
  all_goals go_ret
  all_goals exact ⟨rfl, (by repeat (first | with_reducible exact Below.refl _ _ | with_reducible assumption | with_reducible refine below_more' ?_ (by go_size) | with_reducible refine bel_alloc ?_ _ (by go_size) | with_reducible refine Below.drew ?_ | with_reducible refine Below.setCell ?_ (by go_size) _ | with_reducible refine below_drewN ?_ _))⟩
theorem evalNews (text : Int) (none : Bool) (A : Option Addr) (n c : Nat) (w : World) : Calls Tryz.prog 3 #[.int .i64 text, .bool none, .agg #[.slice A n c]] w fun e w' => e = .returned (.bool true) ∧ Below w.heap.size w w' := by
  cases none
  · by_cases h1 : text < 1
    · exact evalNews_out text (.inl h1) A n c w
    · by_cases h2 : 1024 < text
      · exact evalNews_out text (.inr h2) A n c w
      · exact evalNews_in text (by omega) (by omega) A n c w
  · exact evalNews_none text A n c w
end Go.Proofs.YtlnccofmkikbgaaGreatDoor
