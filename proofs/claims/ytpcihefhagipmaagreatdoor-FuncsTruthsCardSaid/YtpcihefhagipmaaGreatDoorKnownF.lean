/-
  The statements' known, at a table that was asked or not: true; the index is made behind it.
-/
import Derived.Test.YtpcihefhagipmaaGreatDoorKnownL
import Derived.Test.YtpcihefhagipmaaGreatDoorCallF
namespace Go.Proofs.YtpcihefhagipmaaGreatDoor
open Go Go.RowKit

theorem call_plainF (b k : Nat) (hk : ∀ (args : Array Value) (w : World), Sem.run Tryz.prog (callFunc k args) w = .ok (.enter k args) w) (tx : Int) (s : ByteArray) (x y : Int) (ho : ownTab s = some (x, y, .plain k)) (vs : List V) (A : Option Addr) (n c B : Nat) (w : World) (h : TabOK w b)
    (hr : Reads w B 11 A n (argFlat (vs.map single))) (hap : Apart b A n) (hm : n ≤ 1000000000000) (r : V)
    (hd : ∀ w' g c', Turn b w w' → Held w' g vs → between x y n = true → vs.all mayG = true → Calls Tryz.prog k #[.slice (some ⟨g, 0, none⟩) n c'] w' fun e w'' => e = .returned (Value.agg #[Value.int .i64 (r).tag, Value.int .i64 (r).num, Value.string (r).str, Value.bool (r).is, Value.int .i64 (r).code]) ∧ Below w'.heap.size w' w'') :
    Calls Tryz.prog 10 #[.pointer (some ⟨b, 0, none⟩), .string s, .slice A n c, .int .i64 tx] w fun e w' => e = .returned (Value.agg #[Value.int .i64 (callS s vs r).tag, Value.int .i64 (callS s vs r).num, Value.string (callS s vs r).str, Value.bool (callS s vs r).is, Value.int .i64 (callS s vs r).code]) ∧ Ready w' b ∧ Turn b w w' := by
  rw [← callG_single]
  refine table_CallOwnF b tx s x y (.plain k) ho (fun a => mayG a.val) (vs.map single) A n c B w h hr hap hm (fun a ha w' _ => ?_) r (fun w' pd f hb hc hD hbt hall => ?_)
  · obtain ⟨v, _, rfl⟩ := List.mem_map.1 ha
    exact may_single v w'
  · have hx := (ownTab_lows ho).1
    have h0 : 0 < n := by
      simp only [between, Bool.and_eq_true, decide_eq_true_eq] at hbt
      omega
    have hf : f = .func (.func k) #[] #[] := hD
    subst hf
    refine gather0 pd k hk tx (vs.map single) A n c B w' hc (hr.turn hap hb) hm h0 r fun w'' g c' hb' hH => ?_
    rw [vals_single] at hH
    exact hd w'' g c' (hb.trans (.of_below hb')) hH hbt (by rw [List.all_map] at hall; exact hall)
set_option maxRecDepth 100000 in
theorem known_ifF (b : Nat) (A : Option Addr) (c : Nat) (w : World) (h : TabOK w b) (hr : Reads w w.heap.size 11 A 2 (argFlat ([truthG true, oneV].map single))) (hap : Apart b A 2) :
    Calls Tryz.prog 10 #[.pointer (some ⟨b, 0, none⟩), .string ⟨#[73, 70]⟩, .slice A 2 c, .int .i64 8] w fun e w' => e = .returned (.agg #[.int .i64 1, .int .i64 10000, .string ⟨#[]⟩, .bool false, .int .i64 0]) ∧ Ready w' b ∧ Turn b w w' := by
  have h1 := call_plainF b 74 (fun _ _ => rfl) 8 ⟨#[73, 70]⟩ 2 3 rfl [truthG true, oneV] A 2 c _ w h hr hap (by decide) (choiceG [truthG true, oneV]) (fun w' g c' _ hH _ _ => funcs_choice2 _ _ g c' w' hH)
  have e : callS ⟨#[73, 70]⟩ [truthG true, oneV] (choiceG [truthG true, oneV]) = oneV := by decide +kernel
  rw [e] at h1
  exact h1

set_option maxRecDepth 100000 in
set_option maxHeartbeats 2000000 in
/-- The statements' known. -/
theorem law_knownF (b : Nat) (w : World) (h : TabOK w b) : Calls Tryz.prog 7 #[.pointer (some ⟨b, 0, none⟩)] w fun e w' => e = .returned (.bool true) ∧ Ready w' b ∧ Turn b w w' := by
  have hq : ∀ w, (binOp .eql 25 (.agg #[.int .i64 1, .int .i64 10000, .string ⟨#[]⟩, .bool false, .int .i64 0]) (.agg #[.int .i64 1, .int .i64 10000, .string ⟨#[]⟩, .bool false, .int .i64 0])).run Tryz.prog w = .ok (.bool true) w := fun w => by rw [eqlV]; simp [eqB]
  have hbl := h.lt
  have hne : w.heap.size ≠ b := by omega
  go_enter Tryz.func7, Tryz.ntmps7
  go_wp2
  go_region_held3 (fun w' => TabOK w' b ∧ w'.cell? ⟨w.heap.size, 0, none⟩ = some (.int .i64 1) ∧ w'.cell? ⟨w.heap.size, 1, none⟩ = some (.int .i64 10000) ∧ w'.cell? ⟨w.heap.size, 2, none⟩ = some (.string ⟨#[]⟩) ∧ w'.cell? ⟨w.heap.size, 3, none⟩ = some (.bool false) ∧ w'.cell? ⟨w.heap.size, 4, none⟩ = some (.int .i64 0))
    (first | ((try dsimp only); refine ⟨?_, ?_, ?_, ?_, ?_, ?_⟩ <;> first | (refine .inl (hR5.below ?_); (repeat (first | with_reducible exact Below.refl _ _ | with_reducible assumption | with_reducible refine below_more' ?_ (by go_size) | with_reducible refine bel_alloc ?_ _ (by go_size) | with_reducible refine Below.drew ?_ | with_reducible refine Below.setCell ?_ (by go_size) _ | with_reducible refine below_drewN ?_ _)); done) | (refine h.below ?_; (repeat (first | with_reducible exact Below.refl _ _ | with_reducible assumption | with_reducible refine below_more' ?_ (by go_size) | with_reducible refine bel_alloc ?_ _ (by go_size) | with_reducible refine Below.drew ?_ | with_reducible refine Below.setCell ?_ (by go_size) _ | with_reducible refine below_drewN ?_ _)); done) | (go_simp; done)))
    (first | (go_at_call 11; refine (law_truth1 _).mono ?_; rintro e w1 ⟨rfl, hb⟩; obtain ⟨l, q, rfl⟩ := more_of_below hb; clear hb) | (go_at_call 9; refine (law_single2 _).mono ?_; rintro e w1 ⟨rfl, hb⟩; obtain ⟨l, q, rfl⟩ := more_of_below hb; clear hb) | (go_at_call 9; refine (law_single1 _).mono ?_; rintro e w1 ⟨rfl, hb⟩; obtain ⟨l, q, rfl⟩ := more_of_below hb; clear hb) | (go_at_call 10; refine (known_ifF b _ _ _ ?_ ?_ ?_).mono ?_; (exact h.below (by repeat (first | with_reducible exact Below.refl _ _ | with_reducible assumption | with_reducible refine below_more' ?_ (by go_size) | with_reducible refine bel_alloc ?_ _ (by go_size) | with_reducible refine Below.drew ?_ | with_reducible refine Below.setCell ?_ (by go_size) _ | with_reducible refine below_drewN ?_ _))); (exact reads_new (by first | (simp; done) | (simp; omega)) (by first | (simp; done) | (simp; omega)) rfl rfl); (exact fun _ p hp => by cases hp; first | omega | (simp; omega)); rintro e w5 ⟨rfl, hR5, hT5⟩; have z0 := hT5.cell hne (i := 0) (v := .int .i64 1) (by go_simp); have z1 := hT5.cell hne (i := 1) (v := .int .i64 10000) (by go_simp); have z2 := hT5.cell hne (i := 2) (v := .string ⟨#[]⟩) (by go_simp); have z3 := hT5.cell hne (i := 3) (v := .bool false) (by go_simp); have z4 := hT5.cell hne (i := 4) (v := .int .i64 0) (by go_simp); have hzl := cell_lt z0; replace hT5 := (show Turn b w _ from .of_below (by repeat (first | with_reducible exact Below.refl _ _ | with_reducible assumption | with_reducible refine below_more' ?_ (by go_size) | with_reducible refine bel_alloc ?_ _ (by go_size) | with_reducible refine Below.drew ?_ | with_reducible refine Below.setCell ?_ (by go_size) _ | with_reducible refine below_drewN ?_ _))).trans hT5) | (go_at_call 15; refine (table_KnownR b _ _ ?_).mono ?_; (exact hR5.below (by repeat (first | with_reducible exact Below.refl _ _ | with_reducible assumption | with_reducible refine below_more' ?_ (by go_size) | with_reducible refine bel_alloc ?_ _ (by go_size) | with_reducible refine Below.drew ?_ | with_reducible refine Below.setCell ?_ (by go_size) _ | with_reducible refine below_drewN ?_ _))); rintro e w1 ⟨rfl, hb⟩; obtain ⟨l, q, rfl⟩ := more_of_below hb; clear hb))
  all_goals go_wp2
  all_goals go_ret
  all_goals exact ⟨rfl, hR5.below (by repeat (first | with_reducible exact Below.refl _ _ | with_reducible assumption | with_reducible refine below_more' ?_ (by go_size) | with_reducible refine bel_alloc ?_ _ (by go_size) | with_reducible refine Below.drew ?_ | with_reducible refine Below.setCell ?_ (by go_size) _ | with_reducible refine below_drewN ?_ _)), hT5.trans (.of_below (by repeat (first | with_reducible exact Below.refl _ _ | with_reducible assumption | with_reducible refine below_more' ?_ (by go_size) | with_reducible refine bel_alloc ?_ _ (by go_size) | with_reducible refine Below.drew ?_ | with_reducible refine Below.setCell ?_ (by go_size) _ | with_reducible refine below_drewN ?_ _)))⟩
end Go.Proofs.YtpcihefhagipmaaGreatDoor
