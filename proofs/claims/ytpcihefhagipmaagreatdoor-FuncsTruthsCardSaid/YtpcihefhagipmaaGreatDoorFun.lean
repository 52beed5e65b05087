/-
  The functions of layer 11 over single values: choice, iferr, errno, is, TYPE, ASK, integer, fault, choose: what each answers.
-/
import Derived.Test.YtpcihefhagipmaaGreatDoorNum
import Derived.Test.YtpcihefhagipmaaGreatDoorBools
import Derived.Test.YtpcihefhagipmaaGreatDoorOwn
namespace Go.Proofs.YtpcihefhagipmaaGreatDoor
open Go Go.RowKit

def V.cells (v : V) : List Value := [.int .i64 v.tag, .int .i64 v.num, .string v.str, .bool v.is, .int .i64 v.code]
def flat (vs : List V) : List Value := vs.flatMap V.cells
theorem flat_cons (v : V) (vs : List V) : flat (v :: vs) = v.cells ++ flat vs := rfl
theorem flat_length (vs : List V) : (flat vs).length = vs.length * 5 := by
  induction vs with
  | nil => rfl
  | cons v vs ih => rw [flat_cons, List.length_append, ih, List.length_cons]; simp [V.cells]; omega
theorem flat_at (vs : List V) (k : Nat) (v : V) (h : vs[k]? = some v) (j : Nat) (u : Value) (hu : v.cells[j]? = some u) : (flat vs)[k * 5 + j]? = some u := by
  induction vs generalizing k with
  | nil => simp at h
  | cons x xs ih =>
    have hj : j < 5 := (List.getElem?_eq_some_iff.1 hu).1
    rw [flat_cons]
    cases k with
    | zero =>
      simp at h
      subst h
      rw [List.getElem?_append_left (by simp [V.cells]; omega)]
      simpa using hu
    | succ k =>
      rw [List.getElem?_append_right (by simp [V.cells]; omega)]
      have := ih k (by simpa using h)
      have e : (k + 1) * 5 + j - x.cells.length = k * 5 + j := by simp [V.cells]; omega
      rw [e]
      exact this
/-- Block g holds the values. -/
def Held (w : World) (g : Nat) (vs : List V) : Prop := ∀ j u, (flat vs)[j]? = some u → w.cell? ⟨g, j, none⟩ = some u
theorem Held.at {w : World} {g : Nat} {vs : List V} (h : Held w g vs) (k : Nat) (v : V) (hv : vs[k]? = some v) (j0 j1 j2 j3 j4 : Nat) (e0 : j0 = k * 5) (e1 : j1 = k * 5 + 1) (e2 : j2 = k * 5 + 2) (e3 : j3 = k * 5 + 3) (e4 : j4 = k * 5 + 4) :
    w.cell? ⟨g, j0, none⟩ = some (.int .i64 v.tag) ∧ w.cell? ⟨g, j1, none⟩ = some (.int .i64 v.num) ∧ w.cell? ⟨g, j2, none⟩ = some (.string v.str) ∧ w.cell? ⟨g, j3, none⟩ = some (.bool v.is) ∧ w.cell? ⟨g, j4, none⟩ = some (.int .i64 v.code) := by
  subst e0 e1 e2 e3 e4
  exact ⟨h _ _ (flat_at vs k v hv 0 _ rfl), h _ _ (flat_at vs k v hv 1 _ rfl), h _ _ (flat_at vs k v hv 2 _ rfl), h _ _ (flat_at vs k v hv 3 _ rfl), h _ _ (flat_at vs k v hv 4 _ rfl)⟩
theorem Held.keeps {w w' : World} {g : Nat} {vs : List V} (h : Held w g vs) (hk : Keeps w w') : Held w' g vs := fun j u hu => hk.cell _ _ _ (h j u hu)

def choiceG : List V → V
  | x :: y :: zs => if (asBoolG x).2 ≠ 0 then errG (asBoolG x).2 else if (asBoolG x).1 then y else match zs with
    | [z] => z
    | _ => truthG false
  | _ => errG 8
theorem funcs_choice2 (x y : V) (g c : Nat) (w : World) (h : Held w g [x, y]) : Calls Tryz.prog 74 #[.slice (some ⟨g, 0, none⟩) 2 c] w fun e w' => e = .returned (Value.agg #[Value.int .i64 (choiceG [x, y]).tag, Value.int .i64 (choiceG [x, y]).num, Value.string (choiceG [x, y]).str, Value.bool (choiceG [x, y]).is, Value.int .i64 (choiceG [x, y]).code]) ∧ Below w.heap.size w w' := by
  obtain ⟨hx0, hx1, hx2, hx3, hx4⟩ := h.at 0 x rfl 0 1 2 3 4 rfl rfl rfl rfl rfl
  have hg : g < w.heap.size := World.block_lt_of_cell? w _ hx0
  obtain ⟨hy0, hy1, hy2, hy3, hy4⟩ := h.at 1 y rfl 5 6 7 8 9 rfl rfl rfl rfl rfl
  clear h
  by_cases hc : (asBoolG x).2 = 0
  · by_cases hb : (asBoolG x).1 = true
    · have e : choiceG [x, y] = y := by simp [choiceG, hc, hb]
      rw [e]
      replace hc : ((asBoolG x).2 != 0) = false := by simp [hc]
      clear e
      go_enter Tryz.func74, Tryz.ntmps74
      go_wp2_with (first | (go_at_call 115; refine (value_AsBool _ _).mono ?_; rintro e w1 ⟨rfl, hb⟩; obtain ⟨l, n, rfl⟩ := more_of_below hb; clear hb))
      all_goals go_returns
      exact ⟨rfl, (by repeat (first | with_reducible exact Below.refl _ _ | with_reducible assumption | with_reducible refine below_more' ?_ (by go_size) | with_reducible refine bel_alloc ?_ _ (by go_size) | with_reducible refine Below.drew ?_ | with_reducible refine Below.setCell ?_ (by go_size) _ | with_reducible refine below_drewN ?_ _))⟩
    · have e : choiceG [x, y] = truthG false := by simp [choiceG, hc, hb]
      rw [e]
      replace hc : ((asBoolG x).2 != 0) = false := by simp [hc]
      replace hb : (asBoolG x).1 = false := by simpa using hb
      clear e
      go_enter Tryz.func74, Tryz.ntmps74
      go_wp2_with (first | (go_at_call 115; refine (value_AsBool _ _).mono ?_; rintro e w1 ⟨rfl, hb⟩; obtain ⟨l, n, rfl⟩ := more_of_below hb; clear hb) | (go_at_call 116; refine (value_Truth _ _).mono ?_; rintro e w1 ⟨rfl, hb⟩; obtain ⟨l, n, rfl⟩ := more_of_below hb; clear hb))
      all_goals go_returns
      exact ⟨rfl, (by repeat (first | with_reducible exact Below.refl _ _ | with_reducible assumption | with_reducible refine below_more' ?_ (by go_size) | with_reducible refine bel_alloc ?_ _ (by go_size) | with_reducible refine Below.drew ?_ | with_reducible refine Below.setCell ?_ (by go_size) _ | with_reducible refine below_drewN ?_ _))⟩
  · have e : choiceG [x, y] = errG (asBoolG x).2 := by simp [choiceG, hc]
    rw [e]
    replace hc : ((asBoolG x).2 != 0) = true := by simp [hc]
    clear e
    go_enter Tryz.func74, Tryz.ntmps74
    go_wp2_with (first | (go_at_call 115; refine (value_AsBool _ _).mono ?_; rintro e w1 ⟨rfl, hb⟩; obtain ⟨l, n, rfl⟩ := more_of_below hb; clear hb) | (go_at_call 22; refine (value_Err _ _).mono ?_; rintro e w1 ⟨rfl, hb⟩; obtain ⟨l, n, rfl⟩ := more_of_below hb; clear hb))
    all_goals go_returns
    exact ⟨rfl, (by repeat (first | with_reducible exact Below.refl _ _ | with_reducible assumption | with_reducible refine below_more' ?_ (by go_size) | with_reducible refine bel_alloc ?_ _ (by go_size) | with_reducible refine Below.drew ?_ | with_reducible refine Below.setCell ?_ (by go_size) _ | with_reducible refine below_drewN ?_ _))⟩
theorem funcs_choice3 (x y z : V) (g c : Nat) (w : World) (h : Held w g [x, y, z]) : Calls Tryz.prog 74 #[.slice (some ⟨g, 0, none⟩) 3 c] w fun e w' => e = .returned (Value.agg #[Value.int .i64 (choiceG [x, y, z]).tag, Value.int .i64 (choiceG [x, y, z]).num, Value.string (choiceG [x, y, z]).str, Value.bool (choiceG [x, y, z]).is, Value.int .i64 (choiceG [x, y, z]).code]) ∧ Below w.heap.size w w' := by
  obtain ⟨hx0, hx1, hx2, hx3, hx4⟩ := h.at 0 x rfl 0 1 2 3 4 rfl rfl rfl rfl rfl
  have hg : g < w.heap.size := World.block_lt_of_cell? w _ hx0
  obtain ⟨hy0, hy1, hy2, hy3, hy4⟩ := h.at 1 y rfl 5 6 7 8 9 rfl rfl rfl rfl rfl
  obtain ⟨hz0, hz1, hz2, hz3, hz4⟩ := h.at 2 z rfl 10 11 12 13 14 rfl rfl rfl rfl rfl
  clear h
  by_cases hc : (asBoolG x).2 = 0
  · by_cases hb : (asBoolG x).1 = true
    · have e : choiceG [x, y, z] = y := by simp [choiceG, hc, hb]
      rw [e]
      replace hc : ((asBoolG x).2 != 0) = false := by simp [hc]
      clear e
      go_enter Tryz.func74, Tryz.ntmps74
      go_wp2_with (first | (go_at_call 115; refine (value_AsBool _ _).mono ?_; rintro e w1 ⟨rfl, hb⟩; obtain ⟨l, n, rfl⟩ := more_of_below hb; clear hb))
      all_goals go_returns
      exact ⟨rfl, (by repeat (first | with_reducible exact Below.refl _ _ | with_reducible assumption | with_reducible refine below_more' ?_ (by go_size) | with_reducible refine bel_alloc ?_ _ (by go_size) | with_reducible refine Below.drew ?_ | with_reducible refine Below.setCell ?_ (by go_size) _ | with_reducible refine below_drewN ?_ _))⟩
    · have e : choiceG [x, y, z] = z := by simp [choiceG, hc, hb]
      rw [e]
      replace hc : ((asBoolG x).2 != 0) = false := by simp [hc]
      replace hb : (asBoolG x).1 = false := by simpa using hb
      clear e
      go_enter Tryz.func74, Tryz.ntmps74
      go_wp2_with (first | (go_at_call 115; refine (value_AsBool _ _).mono ?_; rintro e w1 ⟨rfl, hb⟩; obtain ⟨l, n, rfl⟩ := more_of_below hb; clear hb) | (go_at_call 116; refine (value_Truth _ _).mono ?_; rintro e w1 ⟨rfl, hb⟩; obtain ⟨l, n, rfl⟩ := more_of_below hb; clear hb))
      all_goals go_returns
      exact ⟨rfl, (by repeat (first | with_reducible exact Below.refl _ _ | with_reducible assumption | with_reducible refine below_more' ?_ (by go_size) | with_reducible refine bel_alloc ?_ _ (by go_size) | with_reducible refine Below.drew ?_ | with_reducible refine Below.setCell ?_ (by go_size) _ | with_reducible refine below_drewN ?_ _))⟩
  · have e : choiceG [x, y, z] = errG (asBoolG x).2 := by simp [choiceG, hc]
    rw [e]
    replace hc : ((asBoolG x).2 != 0) = true := by simp [hc]
    clear e
    go_enter Tryz.func74, Tryz.ntmps74
    go_wp2_with (first | (go_at_call 115; refine (value_AsBool _ _).mono ?_; rintro e w1 ⟨rfl, hb⟩; obtain ⟨l, n, rfl⟩ := more_of_below hb; clear hb) | (go_at_call 22; refine (value_Err _ _).mono ?_; rintro e w1 ⟨rfl, hb⟩; obtain ⟨l, n, rfl⟩ := more_of_below hb; clear hb))
    all_goals go_returns
    exact ⟨rfl, (by repeat (first | with_reducible exact Below.refl _ _ | with_reducible assumption | with_reducible refine below_more' ?_ (by go_size) | with_reducible refine bel_alloc ?_ _ (by go_size) | with_reducible refine Below.drew ?_ | with_reducible refine Below.setCell ?_ (by go_size) _ | with_reducible refine below_drewN ?_ _))⟩
def iferrG : List V → V
  | x :: y :: _ => if x.tag = 4 then y else x
  | _ => errG 8
theorem funcs_iferr (x y : V) (g c : Nat) (w : World) (h : Held w g [x, y]) : Calls Tryz.prog 80 #[.slice (some ⟨g, 0, none⟩) 2 c] w fun e w' => e = .returned (Value.agg #[Value.int .i64 (iferrG [x, y]).tag, Value.int .i64 (iferrG [x, y]).num, Value.string (iferrG [x, y]).str, Value.bool (iferrG [x, y]).is, Value.int .i64 (iferrG [x, y]).code]) ∧ Below w.heap.size w w' := by
  obtain ⟨hx0, hx1, hx2, hx3, hx4⟩ := h.at 0 x rfl 0 1 2 3 4 rfl rfl rfl rfl rfl
  have hg : g < w.heap.size := World.block_lt_of_cell? w _ hx0
  obtain ⟨hy0, hy1, hy2, hy3, hy4⟩ := h.at 1 y rfl 5 6 7 8 9 rfl rfl rfl rfl rfl
  clear h
  by_cases ht : x.tag = 4
  · have e : iferrG [x, y] = y := by simp [iferrG, ht]
    rw [e]
    replace ht : (x.tag == 4) = true := by simp [ht]
    clear e
    go_enter Tryz.func80, Tryz.ntmps80
    go_wp2_with (first | fail)
    all_goals go_returns
    exact ⟨rfl, (by repeat (first | with_reducible exact Below.refl _ _ | with_reducible assumption | with_reducible refine below_more' ?_ (by go_size) | with_reducible refine bel_alloc ?_ _ (by go_size) | with_reducible refine Below.drew ?_ | with_reducible refine Below.setCell ?_ (by go_size) _ | with_reducible refine below_drewN ?_ _))⟩
  · have e : iferrG [x, y] = x := by simp [iferrG, ht]
    rw [e]
    replace ht : (x.tag == 4) = false := by simp [ht]
    clear e
    go_enter Tryz.func80, Tryz.ntmps80
    go_wp2_with (first | fail)
    all_goals go_returns
    exact ⟨rfl, (by repeat (first | with_reducible exact Below.refl _ _ | with_reducible assumption | with_reducible refine below_more' ?_ (by go_size) | with_reducible refine bel_alloc ?_ _ (by go_size) | with_reducible refine Below.drew ?_ | with_reducible refine Below.setCell ?_ (by go_size) _ | with_reducible refine below_drewN ?_ _))⟩
def typeG (x : V) : V := numG (x.tag * 10000)
theorem funcs_type (x : V) (h0 : 0 ≤ x.tag) (h4 : x.tag ≤ 4) (g c : Nat) (w : World) (h : Held w g [x]) : Calls Tryz.prog 82 #[.slice (some ⟨g, 0, none⟩) 1 c] w fun e w' => e = .returned (Value.agg #[Value.int .i64 (typeG x).tag, Value.int .i64 (typeG x).num, Value.string (typeG x).str, Value.bool (typeG x).is, Value.int .i64 (typeG x).code]) ∧ Below w.heap.size w w' := by
  obtain ⟨hx0, hx1, hx2, hx3, hx4⟩ := h.at 0 x rfl 0 1 2 3 4 rfl rfl rfl rfl rfl
  have hg : g < w.heap.size := World.block_lt_of_cell? w _ hx0
  clear h
  go_enter Tryz.func82, Tryz.ntmps82
  go_wp2_with (first | (go_at_call 83; refine (value_Num _ _).mono ?_; rintro e w1 ⟨rfl, hb⟩; obtain ⟨l, n, rfl⟩ := more_of_below hb; clear hb))
  all_goals go_returns
  exact ⟨rfl, (by repeat (first | with_reducible exact Below.refl _ _ | with_reducible assumption | with_reducible refine below_more' ?_ (by go_size) | with_reducible refine bel_alloc ?_ _ (by go_size) | with_reducible refine Below.drew ?_ | with_reducible refine Below.setCell ?_ (by go_size) _ | with_reducible refine below_drewN ?_ _))⟩
theorem funcs_ask (x : V) (g c : Nat) (w : World) : Calls Tryz.prog 87 #[.slice (some ⟨g, 0, none⟩) 1 c] w fun e w' => e = .returned (Value.agg #[Value.int .i64 (errG 8).tag, Value.int .i64 (errG 8).num, Value.string (errG 8).str, Value.bool (errG 8).is, Value.int .i64 (errG 8).code]) ∧ Below w.heap.size w w' := by
  go_enter Tryz.func87, Tryz.ntmps87
  go_wp2_with (first | (go_at_call 22; refine (value_Err _ _).mono ?_; rintro e w1 ⟨rfl, hb⟩; obtain ⟨l, n, rfl⟩ := more_of_below hb; clear hb))
  all_goals go_returns
  exact ⟨rfl, (by repeat (first | with_reducible exact Below.refl _ _ | with_reducible assumption | with_reducible refine below_more' ?_ (by go_size) | with_reducible refine bel_alloc ?_ _ (by go_size) | with_reducible refine Below.drew ?_ | with_reducible refine Below.setCell ?_ (by go_size) _ | with_reducible refine below_drewN ?_ _))⟩
def errnoG (x : V) : V := if x.tag = 4 then numG (x.code * 10000) else errG 8
theorem funcs_errno (x : V) (h0 : x.tag = 4 → isCode x.code = true) (g c : Nat) (w : World) (h : Held w g [x]) : Calls Tryz.prog 84 #[.slice (some ⟨g, 0, none⟩) 1 c] w fun e w' => e = .returned (Value.agg #[Value.int .i64 (errnoG x).tag, Value.int .i64 (errnoG x).num, Value.string (errnoG x).str, Value.bool (errnoG x).is, Value.int .i64 (errnoG x).code]) ∧ Below w.heap.size w w' := by
  obtain ⟨hx0, hx1, hx2, hx3, hx4⟩ := h.at 0 x rfl 0 1 2 3 4 rfl rfl rfl rfl rfl
  have hg : g < w.heap.size := World.block_lt_of_cell? w _ hx0
  clear h
  by_cases ht : x.tag = 4
  · have hc := h0 ht
    have e : errnoG x = numG (x.code * 10000) := by simp [errnoG, ht]
    rw [e]
    simp only [isCode, Bool.and_eq_true, decide_eq_true_eq] at hc
    obtain ⟨hc0, hc1⟩ := hc
    replace ht : (x.tag != 4) = false := by simp [ht]
    clear e h0
    go_enter Tryz.func84, Tryz.ntmps84
    go_wp2_with (first | (go_at_call 83; refine (value_Num _ _).mono ?_; rintro e w1 ⟨rfl, hb⟩; obtain ⟨l, n, rfl⟩ := more_of_below hb; clear hb))
    all_goals go_returns
    exact ⟨rfl, (by repeat (first | with_reducible exact Below.refl _ _ | with_reducible assumption | with_reducible refine below_more' ?_ (by go_size) | with_reducible refine bel_alloc ?_ _ (by go_size) | with_reducible refine Below.drew ?_ | with_reducible refine Below.setCell ?_ (by go_size) _ | with_reducible refine below_drewN ?_ _))⟩
  · have e : errnoG x = errG 8 := by simp [errnoG, ht]
    rw [e]
    replace ht : (x.tag != 4) = true := by simp [ht]
    clear e h0
    go_enter Tryz.func84, Tryz.ntmps84
    go_wp2_with (first | (go_at_call 22; refine (value_Err _ _).mono ?_; rintro e w1 ⟨rfl, hb⟩; obtain ⟨l, n, rfl⟩ := more_of_below hb; clear hb))
    all_goals go_returns
    exact ⟨rfl, (by repeat (first | with_reducible exact Below.refl _ _ | with_reducible assumption | with_reducible refine below_more' ?_ (by go_size) | with_reducible refine bel_alloc ?_ _ (by go_size) | with_reducible refine Below.drew ?_ | with_reducible refine Below.setCell ?_ (by go_size) _ | with_reducible refine below_drewN ?_ _))⟩
theorem funcs_is1 (t : Int) (x : V) (p g c : Nat) (w : World) (hp : w.cell? ⟨p, 0, none⟩ = some (.int .i64 t)) (h : Held w g [x]) : Calls Tryz.prog 120 #[.slice (some ⟨g, 0, none⟩) 1 c, .pointer (some ⟨p, 0, none⟩)] w fun e w' => e = .returned (Value.agg #[Value.int .i64 (truthG (x.tag == t)).tag, Value.int .i64 (truthG (x.tag == t)).num, Value.string (truthG (x.tag == t)).str, Value.bool (truthG (x.tag == t)).is, Value.int .i64 (truthG (x.tag == t)).code]) ∧ Below w.heap.size w w' := by
  obtain ⟨hx0, hx1, hx2, hx3, hx4⟩ := h.at 0 x rfl 0 1 2 3 4 rfl rfl rfl rfl rfl
  have hg : g < w.heap.size := World.block_lt_of_cell? w _ hx0
  have hpl : p < w.heap.size := World.block_lt_of_cell? w _ hp
  clear h hx1 hx2 hx3 hx4
  go_enter Tryz.func120, Tryz.ntmps120
  go_wp2
  go_region_held3 (fun w' => w'.cell? ⟨p, 0, none⟩ = some (.int .i64 t) ∧ w'.cell? ⟨g, 0, none⟩ = some (.int .i64 x.tag)) (first | go_keep | ((try dsimp only); refine ⟨?_, ?_⟩ <;> first | go_keep | (rw [more_cell (by simp; omega)]; assumption) | (rw [more_cell (by simp; omega)]; go_simp; done))) (first | (go_at_call 116; refine (value_Truth _ _).mono ?_; rintro e w1 ⟨rfl, hb⟩; obtain ⟨l, n, rfl⟩ := more_of_below hb; clear hb))
  all_goals go_wp2
  all_goals go_returns
  all_goals exact ⟨rfl, (by repeat (first | with_reducible exact Below.refl _ _ | with_reducible assumption | with_reducible refine below_more' ?_ (by go_size) | with_reducible refine bel_alloc ?_ _ (by go_size) | with_reducible refine Below.drew ?_ | with_reducible refine Below.setCell ?_ (by go_size) _ | with_reducible refine below_drewN ?_ _))⟩
def integerG (v : V) : Int × Int := if (asNumG v).2 ≠ 0 then (0, (asNumG v).2) else if (wholeG (asNumG v).1).2 then ((wholeG (asNumG v).1).1, 0) else (0, 8)
theorem asNum_range {v : V} (hlo : -9223372036854775808 ≤ v.num) (hhi : v.num ≤ 9223372036854775807) : -9223372036854775808 ≤ (asNumG v).1 ∧ (asNumG v).1 ≤ 9223372036854775807 := by
  unfold asNumG
  repeat' split
  all_goals (dsimp only; omega)
theorem funcs_integer (v : V) (hlo : -9223372036854775808 ≤ v.num) (hhi : v.num ≤ 9223372036854775807) (w : World) : Calls Tryz.prog 121 #[(Value.agg #[Value.int .i64 (v).tag, Value.int .i64 (v).num, Value.string (v).str, Value.bool (v).is, Value.int .i64 (v).code])] w fun e w' => e = .returned (.tuple #[.int .i64 (integerG v).1, .int .i64 (integerG v).2]) ∧ Below w.heap.size w w' := by
  obtain ⟨hlo, hhi⟩ := asNum_range hlo hhi
  by_cases hc : (asNumG v).2 = 0
  · by_cases hw : (wholeG (asNumG v).1).2 = true
    · have e : integerG v = ((wholeG (asNumG v).1).1, 0) := by simp [integerG, hc, hw]
      rw [e]
      replace hc : ((asNumG v).2 != 0) = false := by simp [hc]
      clear e
      go_enter Tryz.func121, Tryz.ntmps121
      go_wp2_with (first | (go_at_call 91; refine (value_AsNumber _ _).mono ?_; rintro e w1 ⟨rfl, hb⟩; obtain ⟨l, n, rfl⟩ := more_of_below hb; clear hb) | (go_at_call 95; refine (dec_Whole _ hlo hhi _).mono ?_; rintro e w1 ⟨rfl, rfl⟩))
      go_ret2
      exact ⟨rfl, (by repeat (first | with_reducible exact Below.refl _ _ | with_reducible assumption | with_reducible refine below_more' ?_ (by go_size) | with_reducible refine bel_alloc ?_ _ (by go_size) | with_reducible refine Below.drew ?_ | with_reducible refine Below.setCell ?_ (by go_size) _ | with_reducible refine below_drewN ?_ _))⟩
    · have e : integerG v = (0, 8) := by simp [integerG, hc, hw]
      rw [e]
      replace hc : ((asNumG v).2 != 0) = false := by simp [hc]
      replace hw : (wholeG (asNumG v).1).2 = false := by simpa using hw
      clear e
      go_enter Tryz.func121, Tryz.ntmps121
      go_wp2_with (first | (go_at_call 91; refine (value_AsNumber _ _).mono ?_; rintro e w1 ⟨rfl, hb⟩; obtain ⟨l, n, rfl⟩ := more_of_below hb; clear hb) | (go_at_call 95; refine (dec_Whole _ hlo hhi _).mono ?_; rintro e w1 ⟨rfl, rfl⟩))
      go_ret2
      exact ⟨rfl, (by repeat (first | with_reducible exact Below.refl _ _ | with_reducible assumption | with_reducible refine below_more' ?_ (by go_size) | with_reducible refine bel_alloc ?_ _ (by go_size) | with_reducible refine Below.drew ?_ | with_reducible refine Below.setCell ?_ (by go_size) _ | with_reducible refine below_drewN ?_ _))⟩
  · have e : integerG v = (0, (asNumG v).2) := by simp [integerG, hc]
    rw [e]
    replace hc : ((asNumG v).2 != 0) = true := by simp [hc]
    clear e
    go_enter Tryz.func121, Tryz.ntmps121
    go_wp2_with (first | (go_at_call 91; refine (value_AsNumber _ _).mono ?_; rintro e w1 ⟨rfl, hb⟩; obtain ⟨l, n, rfl⟩ := more_of_below hb; clear hb) | (go_at_call 95; refine (dec_Whole _ hlo hhi _).mono ?_; rintro e w1 ⟨rfl, rfl⟩))
    go_ret2
    exact ⟨rfl, (by repeat (first | with_reducible exact Below.refl _ _ | with_reducible assumption | with_reducible refine below_more' ?_ (by go_size) | with_reducible refine bel_alloc ?_ _ (by go_size) | with_reducible refine Below.drew ?_ | with_reducible refine Below.setCell ?_ (by go_size) _ | with_reducible refine below_drewN ?_ _))⟩
def faultG (x : V) : V := errG (if (integerG x).2 = 0 then if 1 < (integerG x).1 ∧ (integerG x).1 ≤ 8 then (integerG x).1 else 8 else (integerG x).2)
theorem funcs_fault (x : V) (hlo : -9223372036854775808 ≤ x.num) (hhi : x.num ≤ 9223372036854775807) (g c : Nat) (w : World) (h : Held w g [x]) : Calls Tryz.prog 85 #[.slice (some ⟨g, 0, none⟩) 1 c] w fun e w' => e = .returned (Value.agg #[Value.int .i64 (faultG x).tag, Value.int .i64 (faultG x).num, Value.string (faultG x).str, Value.bool (faultG x).is, Value.int .i64 (faultG x).code]) ∧ Below w.heap.size w w' := by
  obtain ⟨hx0, hx1, hx2, hx3, hx4⟩ := h.at 0 x rfl 0 1 2 3 4 rfl rfl rfl rfl rfl
  have hg : g < w.heap.size := World.block_lt_of_cell? w _ hx0
  clear h
  by_cases hc : (integerG x).2 = 0
  · by_cases h1 : 1 < (integerG x).1
    · by_cases h8 : (integerG x).1 ≤ 8
      · have e : faultG x = errG (integerG x).1 := by simp [faultG, hc, h1, h8]
        rw [e]
        replace hc : ((integerG x).2 == 0) = true := by simp [hc]
        clear e
        go_enter Tryz.func85, Tryz.ntmps85
        go_wp2_with (first | (go_at_call 121; refine (funcs_integer _ hlo hhi _).mono ?_; rintro e w1 ⟨rfl, hb⟩; obtain ⟨l, n, rfl⟩ := more_of_below hb; clear hb) | (go_at_call 22; refine (value_Err _ _).mono ?_; rintro e w1 ⟨rfl, hb⟩; obtain ⟨l, n, rfl⟩ := more_of_below hb; clear hb))
        all_goals go_returns
        exact ⟨rfl, (by repeat (first | with_reducible exact Below.refl _ _ | with_reducible assumption | with_reducible refine below_more' ?_ (by go_size) | with_reducible refine bel_alloc ?_ _ (by go_size) | with_reducible refine Below.drew ?_ | with_reducible refine Below.setCell ?_ (by go_size) _ | with_reducible refine below_drewN ?_ _))⟩
      · have e : faultG x = errG 8 := by simp [faultG, hc, h8]
        rw [e]
        replace hc : ((integerG x).2 == 0) = true := by simp [hc]
        clear e
        go_enter Tryz.func85, Tryz.ntmps85
        go_wp2_with (first | (go_at_call 121; refine (funcs_integer _ hlo hhi _).mono ?_; rintro e w1 ⟨rfl, hb⟩; obtain ⟨l, n, rfl⟩ := more_of_below hb; clear hb) | (go_at_call 22; refine (value_Err _ _).mono ?_; rintro e w1 ⟨rfl, hb⟩; obtain ⟨l, n, rfl⟩ := more_of_below hb; clear hb))
        all_goals go_returns
        exact ⟨rfl, (by repeat (first | with_reducible exact Below.refl _ _ | with_reducible assumption | with_reducible refine below_more' ?_ (by go_size) | with_reducible refine bel_alloc ?_ _ (by go_size) | with_reducible refine Below.drew ?_ | with_reducible refine Below.setCell ?_ (by go_size) _ | with_reducible refine below_drewN ?_ _))⟩
    · have e : faultG x = errG 8 := by simp [faultG, hc, h1]
      rw [e]
      replace hc : ((integerG x).2 == 0) = true := by simp [hc]
      clear e
      go_enter Tryz.func85, Tryz.ntmps85
      go_wp2_with (first | (go_at_call 121; refine (funcs_integer _ hlo hhi _).mono ?_; rintro e w1 ⟨rfl, hb⟩; obtain ⟨l, n, rfl⟩ := more_of_below hb; clear hb) | (go_at_call 22; refine (value_Err _ _).mono ?_; rintro e w1 ⟨rfl, hb⟩; obtain ⟨l, n, rfl⟩ := more_of_below hb; clear hb))
      all_goals go_returns
      exact ⟨rfl, (by repeat (first | with_reducible exact Below.refl _ _ | with_reducible assumption | with_reducible refine below_more' ?_ (by go_size) | with_reducible refine bel_alloc ?_ _ (by go_size) | with_reducible refine Below.drew ?_ | with_reducible refine Below.setCell ?_ (by go_size) _ | with_reducible refine below_drewN ?_ _))⟩
  · have e : faultG x = errG (integerG x).2 := by simp [faultG, hc]
    rw [e]
    replace hc : ((integerG x).2 == 0) = false := by simp [hc]
    clear e
    go_enter Tryz.func85, Tryz.ntmps85
    go_wp2_with (first | (go_at_call 121; refine (funcs_integer _ hlo hhi _).mono ?_; rintro e w1 ⟨rfl, hb⟩; obtain ⟨l, n, rfl⟩ := more_of_below hb; clear hb) | (go_at_call 22; refine (value_Err _ _).mono ?_; rintro e w1 ⟨rfl, hb⟩; obtain ⟨l, n, rfl⟩ := more_of_below hb; clear hb))
    all_goals go_returns
    exact ⟨rfl, (by repeat (first | with_reducible exact Below.refl _ _ | with_reducible assumption | with_reducible refine below_more' ?_ (by go_size) | with_reducible refine bel_alloc ?_ _ (by go_size) | with_reducible refine Below.drew ?_ | with_reducible refine Below.setCell ?_ (by go_size) _ | with_reducible refine below_drewN ?_ _))⟩
def chooseG : List V → V
  | x :: vs => if (integerG x).2 ≠ 0 then errG (integerG x).2 else if 1 ≤ (integerG x).1 ∧ (integerG x).1 ≤ vs.length then vs.getD ((integerG x).1.toNat - 1) (errG 8) else errG 5
  | _ => errG 8
theorem funcs_choose (x : V) (vs : List V) (hlo : -9223372036854775808 ≤ x.num) (hhi : x.num ≤ 9223372036854775807) (g c : Nat) (hl : vs.length ≤ 1000000) (w : World) (h : Held w g (x :: vs)) : Calls Tryz.prog 86 #[.slice (some ⟨g, 0, none⟩) (vs.length + 1) c] w fun e w' => e = .returned (Value.agg #[Value.int .i64 (chooseG (x :: vs)).tag, Value.int .i64 (chooseG (x :: vs)).num, Value.string (chooseG (x :: vs)).str, Value.bool (chooseG (x :: vs)).is, Value.int .i64 (chooseG (x :: vs)).code]) ∧ Below w.heap.size w w' := by
  obtain ⟨hx0, hx1, hx2, hx3, hx4⟩ := h.at 0 x rfl 0 1 2 3 4 rfl rfl rfl rfl rfl
  have hg : g < w.heap.size := World.block_lt_of_cell? w _ hx0
  have H := Lib.hid h
  clear h
  by_cases hc : (integerG x).2 = 0
  · by_cases h1 : 1 ≤ (integerG x).1
    · by_cases h8 : (integerG x).1 ≤ vs.length
      · obtain ⟨i, hi⟩ : ∃ i : Nat, (integerG x).1 = ((i + 1 : Nat) : Int) := ⟨(integerG x).1.toNat - 1, by omega⟩
        have hil : i < vs.length := by omega
        obtain ⟨v, hv⟩ : ∃ v, vs[i]? = some v := ⟨_, List.getElem?_eq_getElem hil⟩
        have e : chooseG (x :: vs) = v := by
          have h8' : (i : Int) + 1 ≤ vs.length := by omega
          simp [chooseG, hc, hi, hv, h8']
          omega
        rw [e]
        obtain ⟨hv0, hv1, hv2, hv3, hv4⟩ := H.out.at (i + 1) v (by simpa using hv) _ _ _ _ _ rfl rfl rfl rfl rfl
        have hI : ∀ w, Calls Tryz.prog 121 #[(Value.agg #[Value.int .i64 (x).tag, Value.int .i64 (x).num, Value.string (x).str, Value.bool (x).is, Value.int .i64 (x).code])] w fun e w' => e = .returned (.tuple #[.int .i64 ((i + 1 : Nat) : Int), .int .i64 0]) ∧ Below w.heap.size w w' := fun w => by
          have := funcs_integer x hlo hhi w
          rw [hi, hc] at this
          exact this
        have HI := Lib.hid hI
        clear e hc hi h1 h8 hI hv
        go_enter Tryz.func86, Tryz.ntmps86
        go_wp2_with (first | (go_at_call 121; refine (HI.out _).mono ?_; rintro e w1 ⟨rfl, hb⟩; obtain ⟨l, n, rfl⟩ := more_of_below hb; clear hb))
        all_goals go_returns
        exact ⟨rfl, (by repeat (first | with_reducible exact Below.refl _ _ | with_reducible assumption | with_reducible refine below_more' ?_ (by go_size) | with_reducible refine bel_alloc ?_ _ (by go_size) | with_reducible refine Below.drew ?_ | with_reducible refine Below.setCell ?_ (by go_size) _ | with_reducible refine below_drewN ?_ _))⟩
      · have e : chooseG (x :: vs) = errG 5 := by simp [chooseG, hc, h8]
        rw [e]
        replace hc : ((integerG x).2 != 0) = false := by simp [hc]
        clear e H
        go_enter Tryz.func86, Tryz.ntmps86
        go_wp2_with (first | (go_at_call 121; refine (funcs_integer _ hlo hhi _).mono ?_; rintro e w1 ⟨rfl, hb⟩; obtain ⟨l, n, rfl⟩ := more_of_below hb; clear hb) | (go_at_call 22; refine (value_Err _ _).mono ?_; rintro e w1 ⟨rfl, hb⟩; obtain ⟨l, n, rfl⟩ := more_of_below hb; clear hb))
        all_goals go_returns
        exact ⟨rfl, (by repeat (first | with_reducible exact Below.refl _ _ | with_reducible assumption | with_reducible refine below_more' ?_ (by go_size) | with_reducible refine bel_alloc ?_ _ (by go_size) | with_reducible refine Below.drew ?_ | with_reducible refine Below.setCell ?_ (by go_size) _ | with_reducible refine below_drewN ?_ _))⟩
    · have e : chooseG (x :: vs) = errG 5 := by simp [chooseG, hc, h1]
      rw [e]
      replace hc : ((integerG x).2 != 0) = false := by simp [hc]
      clear e H
      go_enter Tryz.func86, Tryz.ntmps86
      go_wp2_with (first | (go_at_call 121; refine (funcs_integer _ hlo hhi _).mono ?_; rintro e w1 ⟨rfl, hb⟩; obtain ⟨l, n, rfl⟩ := more_of_below hb; clear hb) | (go_at_call 22; refine (value_Err _ _).mono ?_; rintro e w1 ⟨rfl, hb⟩; obtain ⟨l, n, rfl⟩ := more_of_below hb; clear hb))
      all_goals go_returns
      exact ⟨rfl, (by repeat (first | with_reducible exact Below.refl _ _ | with_reducible assumption | with_reducible refine below_more' ?_ (by go_size) | with_reducible refine bel_alloc ?_ _ (by go_size) | with_reducible refine Below.drew ?_ | with_reducible refine Below.setCell ?_ (by go_size) _ | with_reducible refine below_drewN ?_ _))⟩
  · have e : chooseG (x :: vs) = errG (integerG x).2 := by simp [chooseG, hc]
    rw [e]
    replace hc : ((integerG x).2 != 0) = true := by simp [hc]
    clear e H
    go_enter Tryz.func86, Tryz.ntmps86
    go_wp2_with (first | (go_at_call 121; refine (funcs_integer _ hlo hhi _).mono ?_; rintro e w1 ⟨rfl, hb⟩; obtain ⟨l, n, rfl⟩ := more_of_below hb; clear hb) | (go_at_call 22; refine (value_Err _ _).mono ?_; rintro e w1 ⟨rfl, hb⟩; obtain ⟨l, n, rfl⟩ := more_of_below hb; clear hb))
    all_goals go_returns
    exact ⟨rfl, (by repeat (first | with_reducible exact Below.refl _ _ | with_reducible assumption | with_reducible refine below_more' ?_ (by go_size) | with_reducible refine bel_alloc ?_ _ (by go_size) | with_reducible refine Below.drew ?_ | with_reducible refine Below.setCell ?_ (by go_size) _ | with_reducible refine below_drewN ?_ _))⟩
end Go.Proofs.YtpcihefhagipmaaGreatDoor
