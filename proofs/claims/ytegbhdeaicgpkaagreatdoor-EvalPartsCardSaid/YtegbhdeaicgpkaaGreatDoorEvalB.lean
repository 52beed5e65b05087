/-
  refs.Check, eval.New, Eval.short, eval.number, eval.sums and Eval.two at a sum of two numbers.
-/
import Derived.Test.YtegbhdeaicgpkaaGreatDoorDepth
namespace Go.Proofs.YtegbhdeaicgpkaaGreatDoor
open Go Go.RowKit

theorem refs_Check (xs : List Nd) (A : Option Addr) (n c B : Nat) (w : World) (hr : Reads w B 15 A n (flatC Nd.cells xs)) (h1 : 1 ≤ n) (h2 : n ≤ 1024) (hw : Wf xs) (d b : Int) (hs : stkP xs = [(d, b)]) (hd : d ≤ 32) :
    Calls Tryz.prog 42 #[.agg #[.slice A n c]] w fun e w' => e = .returned (.int .i64 0) ∧ Below w.heap.size w w' := by
  have HR := Lib.hid hr
  have HW := Lib.hid hw
  have HS := Lib.hid hs
  clear hr hw hs
  go_enter Tryz.func42, Tryz.ntmps42
  go_wp2_with (go_at_call 132; refine (refs_depth xs A n c B _ (HR.out.keeps (by repeat (first | with_reducible exact keeps_refl _ | with_reducible assumption | with_reducible refine keeps_alloc ?_ _ | with_reducible refine keeps_more ?_ _ _ | with_reducible refine keeps_drew ?_ | with_reducible refine keeps_drewN ?_ _))) h1 h2 HW.out d b HS.out).mono ?_; rintro e w1 ⟨rfl, hb⟩; obtain ⟨l, m, rfl⟩ := more_of_below hb; clear hb)
  go_ret
  exact ⟨rfl, (by repeat (first | with_reducible exact Below.refl _ _ | with_reducible assumption | with_reducible refine below_more' ?_ (by go_size) | with_reducible refine bel_alloc ?_ _ (by go_size) | with_reducible refine Below.drew ?_ | with_reducible refine Below.setCell ?_ (by go_size) _ | with_reducible refine below_drewN ?_ _))⟩

/-- The cells of a worker. -/
def evCells (tp : Addr) (text : Int) : List Value := [.pointer (some tp), .int .i64 text, .nilIface]
theorem eval_New (tp : Addr) (text : Int) (h1 : 1 ≤ text) (h2 : text ≤ 1024) (w : World) : Calls Tryz.prog 21 #[.pointer (some tp), .int .i64 text, .nilIface] w fun e w' => e = .returned (.pointer (some ⟨w.heap.size, 0, none⟩)) ∧ AtB w' w.heap.size (evCells tp text) ∧ Below w.heap.size w w' := by
  go_enter Tryz.func21, Tryz.ntmps21
  go_wp2
  go_ret
  exact ⟨rfl, AtB.new rfl, (by repeat (first | with_reducible exact Below.refl _ _ | with_reducible assumption | with_reducible refine below_more' ?_ (by go_size) | with_reducible refine bel_alloc ?_ _ (by go_size) | with_reducible refine Below.drew ?_ | with_reducible refine Below.setCell ?_ (by go_size) _ | with_reducible refine below_drewN ?_ _))⟩
theorem eval_New_nil (text : Int) (w : World) : Calls Tryz.prog 21 #[.pointer none, .int .i64 text, .nilIface] w fun e w' => e = .returned (.pointer none) ∧ w = w' := by
  go_enter Tryz.func21, Tryz.ntmps21
  go_wp2
  go_ret
  exact ⟨rfl, rfl⟩
theorem eval_New_out (tp : Addr) (text : Int) (h1 : text < 1 ∨ 1024 < text) (w : World) : Calls Tryz.prog 21 #[.pointer (some tp), .int .i64 text, .nilIface] w fun e w' => e = .returned (.pointer none) ∧ w = w' := by
  rcases h1 with h1 | h1
  · go_enter Tryz.func21, Tryz.ntmps21
    go_wp2
    go_ret
    exact ⟨rfl, rfl⟩
  · have h2 : ¬ text < 1 := by omega
    go_enter Tryz.func21, Tryz.ntmps21
    go_wp2
    go_ret
    exact ⟨rfl, rfl⟩

theorem eval_number_ok (x : Int) (w : World) : Calls Tryz.prog 133 #[.int .i64 x, .int .i64 0] w fun e w' => e = .returned (Value.agg #[Value.int .i64 (numG x).tag, Value.int .i64 (numG x).num, Value.string (numG x).str, Value.bool (numG x).is, Value.int .i64 (numG x).code]) ∧ Below w.heap.size w w' := by
  go_enter Tryz.func133, Tryz.ntmps133
  go_wp2_with (go_at_call 56; refine (value_Num x _).mono ?_; rintro e w1 ⟨rfl, hb⟩; obtain ⟨l, m, rfl⟩ := more_of_below hb; clear hb)
  go_returns
  exact ⟨rfl, (by repeat (first | with_reducible exact Below.refl _ _ | with_reducible assumption | with_reducible refine below_more' ?_ (by go_size) | with_reducible refine bel_alloc ?_ _ (by go_size) | with_reducible refine Below.drew ?_ | with_reducible refine Below.setCell ?_ (by go_size) _ | with_reducible refine below_drewN ?_ _))⟩
def numV (x : Int) : V := ⟨1, x, ⟨#[]⟩, false, 0⟩
theorem numG_pos (x : Int) (h : 0 < x) : numG x = numV x := by
  unfold numG
  rw [if_neg (by simp [minI]; omega)]
  rfl
theorem may_numV (x : Int) (h : 0 < x) : mayG (numV x) = true := by
  have hx : (x != minI) = true := by simp [minI]; omega
  show ((true && true) && eqB ⟨1, 0, ⟨#[]⟩, false, 0⟩ ⟨1, 0, ⟨#[]⟩, false, 0⟩ && (x != minI)) = true
  rw [hx]
  decide +kernel
theorem asNum_pos (x : Int) (h : 0 < x) : asNumG (numV x) = (x, 0) := by
  have hm := may_numV x h
  unfold asNumG
  rw [hm]
  rfl
theorem eval_sums_add (x y : Int) (h0 : 0 < x) (h1 : 0 < y) (h2 : x ≤ 1000000000) (h3 : y ≤ 1000000000) (w : World) : Calls Tryz.prog 136 #[.int .i64 5, (Value.agg #[Value.int .i64 (numV x).tag, Value.int .i64 (numV x).num, Value.string (numV x).str, Value.bool (numV x).is, Value.int .i64 (numV x).code]), (Value.agg #[Value.int .i64 (numV y).tag, Value.int .i64 (numV y).num, Value.string (numV y).str, Value.bool (numV y).is, Value.int .i64 (numV y).code])] w fun e w' => e = .returned (Value.agg #[Value.int .i64 (numV (x + y)).tag, Value.int .i64 (numV (x + y)).num, Value.string (numV (x + y)).str, Value.bool (numV (x + y)).is, Value.int .i64 (numV (x + y)).code]) ∧ Below w.heap.size w w' := by
  have ex := asNum_pos x h0
  have ey := asNum_pos y h1
  have exy := numG_pos (x + y) (by omega)
  have EX := Lib.hid ex
  have EY := Lib.hid ey
  have EXY := Lib.hid exy
  have k0 := Lib.hid h0; have k1 := Lib.hid h1; have k2 := Lib.hid h2; have k3 := Lib.hid h3
  clear ex ey exy h0 h1 h2 h3
  go_enter Tryz.func136, Tryz.ntmps136
  go_wp2_with (first
    | (go_at_call_of 31 (Value.agg #[Value.int .i64 (numV x).tag, Value.int .i64 (numV x).num, Value.string (numV x).str, Value.bool (numV x).is, Value.int .i64 (numV x).code]); refine (value_AsNumber (numV x) _).mono ?_; rw [EX.out]; rintro e w1 ⟨rfl, hb⟩; obtain ⟨l, m, rfl⟩ := more_of_below hb; clear hb)
    | (go_at_call_of 31 (Value.agg #[Value.int .i64 (numV y).tag, Value.int .i64 (numV y).num, Value.string (numV y).str, Value.bool (numV y).is, Value.int .i64 (numV y).code]); refine (value_AsNumber (numV y) _).mono ?_; rw [EY.out]; rintro e w1 ⟨rfl, hb⟩; obtain ⟨l, m, rfl⟩ := more_of_below hb; clear hb)
    | (go_at_call 199; refine (dec_Add_pos x y k0.out k1.out k2.out k3.out _).mono ?_; rintro e w1 ⟨rfl, rfl⟩)
    | (go_at_call 133; refine (eval_number_ok (x + y) _).mono ?_; rw [EXY.out]; rintro e w1 ⟨rfl, hb⟩; obtain ⟨l, m, rfl⟩ := more_of_below hb; clear hb))
  go_returns
  exact ⟨rfl, (by repeat (first | with_reducible exact Below.refl _ _ | with_reducible assumption | with_reducible refine below_more' ?_ (by go_size) | with_reducible refine bel_alloc ?_ _ (by go_size) | with_reducible refine Below.drew ?_ | with_reducible refine Below.setCell ?_ (by go_size) _ | with_reducible refine below_drewN ?_ _))⟩
theorem eval_two_add (pe : Addr) (x y : Int) (h0 : 0 < x) (h1 : 0 < y) (h2 : x ≤ 1000000000) (h3 : y ≤ 1000000000) (w : World) : Calls Tryz.prog 45 #[.pointer (some pe), .int .i64 5, (Value.agg #[Value.int .i64 (numV x).tag, Value.int .i64 (numV x).num, Value.string (numV x).str, Value.bool (numV x).is, Value.int .i64 (numV x).code]), (Value.agg #[Value.int .i64 (numV y).tag, Value.int .i64 (numV y).num, Value.string (numV y).str, Value.bool (numV y).is, Value.int .i64 (numV y).code])] w fun e w' => e = .returned (Value.agg #[Value.int .i64 (numV (x + y)).tag, Value.int .i64 (numV (x + y)).num, Value.string (numV (x + y)).str, Value.bool (numV (x + y)).is, Value.int .i64 (numV (x + y)).code]) ∧ Below w.heap.size w w' := by
  go_enter Tryz.func45, Tryz.ntmps45
  go_wp2_with (go_at_call 136; refine (eval_sums_add x y h0 h1 h2 h3 _).mono ?_; rintro e w1 ⟨rfl, hb⟩; obtain ⟨l, m, rfl⟩ := more_of_below hb; clear hb)
  go_returns
  exact ⟨rfl, (by repeat (first | with_reducible exact Below.refl _ _ | with_reducible assumption | with_reducible refine below_more' ?_ (by go_size) | with_reducible refine bel_alloc ?_ _ (by go_size) | with_reducible refine Below.drew ?_ | with_reducible refine Below.setCell ?_ (by go_size) _ | with_reducible refine below_drewN ?_ _))⟩
/-- A value whose text is not too long stays. -/
theorem eval_short (p : Nat) (tp : Addr) (text : Int) (v : V) (hv : (v.str.size : Int) ≤ text) (w : World) (hp : AtB w p (evCells tp text)) : Calls Tryz.prog 43 #[.pointer (some ⟨p, 0, none⟩), (Value.agg #[Value.int .i64 (v).tag, Value.int .i64 (v).num, Value.string (v).str, Value.bool (v).is, Value.int .i64 (v).code])] w fun e w' => e = .returned (Value.agg #[Value.int .i64 (v).tag, Value.int .i64 (v).num, Value.string (v).str, Value.bool (v).is, Value.int .i64 (v).code]) ∧ Below w.heap.size w w' := by
  have p0 := hp 0 _ rfl
  have p1 := hp 1 _ rfl
  have p2 := hp 2 _ rfl
  have lp := cell_ltJ p0
  clear hp
  go_enter Tryz.func43, Tryz.ntmps43
  go_wp2
  go_quiet (fail)
  all_goals go_wp2
  all_goals go_returns
  all_goals exact ⟨rfl, (by repeat (first | with_reducible exact Below.refl _ _ | with_reducible assumption | with_reducible refine below_more' ?_ (by go_size) | with_reducible refine bel_alloc ?_ _ (by go_size) | with_reducible refine Below.drew ?_ | with_reducible refine Below.setCell ?_ (by go_size) _ | with_reducible refine below_drewN ?_ _))⟩
end Go.Proofs.YtegbhdeaicgpkaaGreatDoor
