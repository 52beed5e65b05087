/-
  The law's lives: a sum is worked out.
-/
import Derived.Test.YtegbhdeaicgpkaaGreatDoorWork
namespace Go.Proofs.YtegbhdeaicgpkaaGreatDoor
open Go Go.RowKit

theorem funcs_New0 (w : World) : Calls Tryz.prog 6 #[] w fun e w' => e = .returned (.pointer (some ⟨w.heap.size, 0, none⟩)) ∧ Below w.heap.size w w' ∧ w.heap.size < w'.heap.size := by
  go_enter Tryz.func6, Tryz.ntmps6
  go_wp2
  go_ret
  exact ⟨rfl, (by repeat (first | with_reducible exact Below.refl _ _ | with_reducible assumption | with_reducible refine below_more' ?_ (by go_size) | with_reducible refine bel_alloc ?_ _ (by go_size) | with_reducible refine Below.drew ?_ | with_reducible refine Below.setCell ?_ (by go_size) _ | with_reducible refine below_drewN ?_ _)), by simp⟩
def xs3 : List Nd := [Nd.cell 1 1, Nd.value (numV 15000), Nd.opn 5]
def ents3 : List Ent := [⟨1, 1, numV 20000⟩]
def G3 (_ : Int) (a b : V) : V := numV (a.num + b.num)
theorem stkP3 : stkP xs3 = [(0, 3)] := by decide +kernel
theorem wf3 : Wf xs3 := by
  intro j x hx
  match j, hx with
  | 0, hx =>
    cases hx
    exact ⟨.inl ⟨1, 1, rfl, by decide, by decide, by decide, by decide⟩, fun h => absurd h (by decide), fun p hp => by simp [stkP] at hp⟩
  | 1, hx =>
    cases hx
    refine ⟨.inr (.inl ⟨numV 15000, rfl, may_numV _ (by decide), by decide, by decide, by decide⟩), fun h => absurd h (by decide), fun p hp => ?_⟩
    have e : stkP (xs3.take 1) = [(0, 7)] := by decide +kernel
    rw [e] at hp
    simp at hp
    subst hp
    decide
  | 2, hx =>
    cases hx
    have e : stkP (xs3.take 2) = [(0, 7), (0, 7)] := by decide +kernel
    refine ⟨.inr (.inr ⟨5, rfl, by decide, by decide⟩), fun _ => by rw [e]; decide, fun p hp => ?_⟩
    rw [e] at hp
    simp at hp
    subst hp
    decide
  | _ + 3, hx => cases hx
theorem stkV3 : stkV ents3 G3 xs3 = [numV 35000] := by rfl
theorem hG3 (pe : Nat) (tp : Addr) : ∀ (j : Nat) (k : Int) (pre : List V) (a b : V), xs3[j]? = some (Nd.opn k) → stkV ents3 G3 (xs3.take j) = pre ++ [a, b] → ∀ w', AtB w' pe (evCells tp 4) → Calls Tryz.prog 45 #[.pointer (some ⟨pe, 0, none⟩), .int .i64 k, (Value.agg #[Value.int .i64 (a).tag, Value.int .i64 (a).num, Value.string (a).str, Value.bool (a).is, Value.int .i64 (a).code]), (Value.agg #[Value.int .i64 (b).tag, Value.int .i64 (b).num, Value.string (b).str, Value.bool (b).is, Value.int .i64 (b).code])] w' fun e w'' => e = .returned (Value.agg #[Value.int .i64 (G3 k a b).tag, Value.int .i64 (G3 k a b).num, Value.string (G3 k a b).str, Value.bool (G3 k a b).is, Value.int .i64 (G3 k a b).code]) ∧ Below w'.heap.size w' w'' := by
  intro j k pre a b hj hs w' _
  match j, hj with
  | 0, hj => cases hj
  | 1, hj => cases hj
  | 2, hj =>
    cases hj
    have e : stkV ents3 G3 (xs3.take 2) = [] ++ [numV 20000, numV 15000] := by rfl
    rw [e] at hs
    have h1 := List.append_inj' hs rfl
    obtain ⟨_, h2⟩ := h1
    cases h2
    exact eval_two_add _ 20000 15000 (by decide) (by decide) (by decide) (by decide) w'
  | _ + 3, hj => cases hj
theorem short3 : ∀ (j : Nat) (x : Nd), xs3[j]? = some x → x.kind = 1 → (x.v.str.size : Int) ≤ 4 := by
  intro j x hx _
  match j, hx with
  | 0, hx => cases hx; decide
  | 1, hx => cases hx; decide
  | 2, hx => cases hx; decide
  | _ + 3, hx => cases hx
theorem nodes3 {X : World} {bn : Nat} (h : bn = X.heap.size) : Reads (X.alloc (.cells #[.int .i64 2, .int .i64 0, .int .i64 0, .string ⟨#[]⟩, .bool false, .int .i64 0, .int .i64 1, .int .i64 1, .int .i64 0, .int .i64 0, .int .i64 0, .int .i64 0, .int .i64 0, .string ⟨#[]⟩, .int .i64 0, .int .i64 1, .int .i64 1, .int .i64 15000, .string ⟨#[]⟩, .bool false, .int .i64 0, .int .i64 0, .int .i64 0, .int .i64 0, .int .i64 0, .int .i64 0, .int .i64 0, .int .i64 0, .string ⟨#[]⟩, .int .i64 0, .int .i64 4, .int .i64 0, .int .i64 0, .string ⟨#[]⟩, .bool false, .int .i64 0, .int .i64 0, .int .i64 0, .int .i64 0, .int .i64 0, .int .i64 0, .int .i64 0, .int .i64 5, .string ⟨#[]⟩, .int .i64 0] 54)) (bn + 1) 15 (some ⟨bn, 0, none⟩) 3 (flatC Nd.cells xs3) := by
  subst h
  exact ⟨rfl, fun _ => ⟨X.heap.size, 0, rfl, Nat.lt_succ_self _, fun j u hu => by rw [Nat.zero_add]; exact (AtB.new rfl) j u hu⟩⟩
theorem src3 {X : World} {o : Obj} {n0 : Nat} (h : n0 = X.heap.size) : Src (((X.alloc (.cells #[.int .i64 1, .int .i64 1, .int .i64 1, .int .i64 20000, .string ⟨#[]⟩, .bool false, .int .i64 0] 46)).alloc (.cells #[.slice (some ⟨n0, 0, none⟩) 1 1, .slice none 0 0, .bool false, .slice none 0 0] 62)).alloc o) (n0 + 1 + 1) (n0 + 1) n0 ents3 (.slice none 0 0) 0 [] := by
  subst h
  refine ⟨by omega, by omega, by omega, by simp, ?_, ?_, ?_, World.ownsRow_nil _ _ _ _⟩
  · exact AtB.allocI (fun j u hu => (AtB.new (by simp)) j u (by match j, hu with | 0, hu => exact hu | 1, hu => exact hu | _ + 2, hu => cases hu)) _
  · exact frozen_allocJ (frozen_of_row _ _ _ _ _ (by have h := heap_alloc_new (X.alloc (.cells #[.int .i64 1, .int .i64 1, .int .i64 1, .int .i64 20000, .string ⟨#[]⟩, .bool false, .int .i64 0] 46)) (.cells #[.slice (some ⟨X.heap.size, 0, none⟩) 1 1, .slice none 0 0, .bool false, .slice none 0 0] 62); simpa using h)) (by simp) _
  · exact AtB.allocI (AtB.allocI (AtB.new rfl) _) _
theorem Kept2.base {pt B : Nat} {row : Option Nat} {w X w2 : World} (h : Kept2 pt row X w2) (hb : Below B w X) (hB : B ≤ w.heap.size) (hp : B ≤ pt) (hr : ∀ k, row = some k → B ≤ k) : Below B w w2 :=
  ⟨h.1.trans hb.os, h.2.1.trans hb.tape, h.2.2.1.trans hb.output, Nat.le_trans hb.size h.2.2.2.1, fun k hk => (h.2.2.2.2 k (by have := hb.size; omega) (by omega) (fun e => by have := hr k e; omega)).trans (hb.block k hk)⟩
theorem eq_r3 (w : World) : (binOp .eql 29 (Value.agg #[Value.int .i64 (numV 35000).tag, Value.int .i64 (numV 35000).num, Value.string (numV 35000).str, Value.bool (numV 35000).is, Value.int .i64 (numV 35000).code]) (.agg #[.int .i64 1, .int .i64 35000, .string ⟨#[]⟩, .bool false, .int .i64 0])).run Tryz.prog w = .ok (.bool true) w := by rw [eqlV]; rfl
theorem lives0 (w : World) : Calls Tryz.prog 19 #[] w fun e w' => e = .returned (.bool true) ∧ Below w.heap.size w w' := by
  have he := eq_r3
  go_enter Tryz.func19, Tryz.ntmps19
  go_wp2_with (first
    | (go_at_call 6; refine (funcs_New0 _).mono ?_; rintro e w1 ⟨rfl, hb, hs⟩; obtain ⟨l, m, rfl⟩ := more_of_below hb; clear hb)
    | (go_at_call 21; refine (eval_New _ 4 (by decide) (by decide) _).mono ?_; rintro e w1 ⟨rfl, hE, hb⟩; have hs2 := hb.size; simp only [more_size] at hE hb hs2)
    | (go_at_call 22; refine (eval_Work (w.heap.size + l.length) ⟨w.heap.size, 0, none⟩ 4 G3 xs3 (w1.heap.size + 1 + 1 + 1) 0 3 3 (w1.heap.size + 1 + 1 + 1 + 1) (w1.heap.size + 1 + 1 + 1) (w1.heap.size + 1 + 1) (w1.heap.size + 1) ents3 (.slice none 0 0) 0 [] _ ?_ (by decide) (by decide) wf3 0 3 stkP3 (by decide) (numV 35000) stkV3 ?_ ?_ (by decide) (by decide) (by omega) (by simp [Value.ownBlock]) ?_ (by simp [Value.ownBlock]) short3 (hG3 _ _)).mono ?_))
  · exact nodes3 (by simp)
  · exact hE.below (by repeat (first | with_reducible exact Below.refl _ _ | with_reducible assumption | with_reducible refine below_more' ?_ (by go_size) | with_reducible refine bel_alloc ?_ _ (by go_size) | with_reducible refine Below.drew ?_ | with_reducible refine Below.setCell ?_ (by go_size) _ | with_reducible refine below_drewN ?_ _))
  · exact src3 (by simp)
  · omega
  · rintro e w2 ⟨rfl, ask, na, L, hs3, _, hk, _⟩
    go_wp2
    have hB := Kept2.base (B := w.heap.size) hk (Below.trans (show Below w.heap.size w w1 from Below.trans (show Below w.heap.size w (more w l m) from (by repeat (first | with_reducible exact Below.refl _ _ | with_reducible assumption | with_reducible refine below_more' ?_ (by go_size) | with_reducible refine bel_alloc ?_ _ (by go_size) | with_reducible refine Below.drew ?_ | with_reducible refine Below.setCell ?_ (by go_size) _ | with_reducible refine below_drewN ?_ _))) (hb.mono (by omega))) (by repeat (first | with_reducible exact Below.refl _ _ | with_reducible assumption | with_reducible refine below_more' ?_ (by go_size) | with_reducible refine bel_alloc ?_ _ (by go_size) | with_reducible refine Below.drew ?_ | with_reducible refine Below.setCell ?_ (by go_size) _ | with_reducible refine below_drewN ?_ _))) (Nat.le_refl _) (by omega) (fun k e => by cases e)
    go_ret
    exact ⟨rfl, hB⟩
end Go.Proofs.YtegbhdeaicgpkaaGreatDoor
