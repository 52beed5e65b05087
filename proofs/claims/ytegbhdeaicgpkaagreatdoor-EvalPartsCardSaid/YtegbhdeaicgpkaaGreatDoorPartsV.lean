/-
  EvalParts: for every operation and every two values it returns true.
-/
import Derived.Test.YtegbhdeaicgpkaaGreatDoorPartsW
namespace Go.Proofs.YtegbhdeaicgpkaaGreatDoor
open Go Go.RowKit

set_option maxRecDepth 100000 in
theorem parts_other (op one two text : Int) (x y : V) (hx : Fits x) (hy : Fits y) (h : mayG x = false ∨ mayG y = false) (w : World) : Calls Tryz.prog 5 #[.agg #[.int .i64 op, .int .i64 x.tag, .int .i64 x.num, .string x.str, .bool x.is, .int .i64 x.code, .int .i64 y.tag, .int .i64 y.num, .string y.str, .bool y.is, .int .i64 y.code, .int .i64 one, .int .i64 two, .int .i64 text]] w fun e w' => e = .returned (.bool true) ∧ Below w.heap.size w w' := by
  have HX := Lib.hid hx
  have HY := Lib.hid hy
  clear hx hy
  cases mx : mayG x with
  | false =>
    clear h
    have MX := Lib.hid mx
    clear mx
    cases my : mayG y
    all_goals have MY := Lib.hid my
    all_goals clear my
    all_goals go_enter Tryz.func5, Tryz.ntmps5
    all_goals go_wp2_with (first
      | (go_at_call_of 18 (Value.agg #[Value.int .i64 (x).tag, Value.int .i64 (x).num, Value.string (x).str, Value.bool (x).is, Value.int .i64 (x).code]); refine (ref02_May x HX.out.1.1 _).mono ?_; rw [MX.out]; rintro e w1 ⟨rfl, hb⟩; obtain ⟨lx, nx, rfl⟩ := more_of_below hb; clear hb)
      | (go_at_call_of 18 (Value.agg #[Value.int .i64 (y).tag, Value.int .i64 (y).num, Value.string (y).str, Value.bool (y).is, Value.int .i64 (y).code]); refine (ref02_May y HY.out.1.1 _).mono ?_; rw [MY.out]; rintro e w1 ⟨rfl, hb⟩; obtain ⟨ly, ny, rfl⟩ := more_of_below hb; clear hb)
      | (go_at_call 19; refine (lives0 _).mono ?_; rintro e w1 ⟨rfl, hb⟩; obtain ⟨lf, nf, rfl⟩ := more_of_below hb; clear hb))
    all_goals go_ret
    all_goals exact ⟨rfl, (by repeat (first | with_reducible exact Below.refl _ _ | with_reducible assumption | with_reducible refine below_more' ?_ (by go_size) | with_reducible refine bel_alloc ?_ _ (by go_size) | with_reducible refine Below.drew ?_ | with_reducible refine Below.setCell ?_ (by go_size) _ | with_reducible refine below_drewN ?_ _))⟩
  | true =>
    have my : mayG y = false := by simpa [mx] using h
    have MX := Lib.hid mx
    have MY := Lib.hid my
    clear h mx my
    go_enter Tryz.func5, Tryz.ntmps5
    go_wp2_with (first
      | (go_at_call_of 18 (Value.agg #[Value.int .i64 (x).tag, Value.int .i64 (x).num, Value.string (x).str, Value.bool (x).is, Value.int .i64 (x).code]); refine (ref02_May x HX.out.1.1 _).mono ?_; rw [MX.out]; rintro e w1 ⟨rfl, hb⟩; obtain ⟨lx, nx, rfl⟩ := more_of_below hb; clear hb)
      | (go_at_call_of 18 (Value.agg #[Value.int .i64 (y).tag, Value.int .i64 (y).num, Value.string (y).str, Value.bool (y).is, Value.int .i64 (y).code]); refine (ref02_May y HY.out.1.1 _).mono ?_; rw [MY.out]; rintro e w1 ⟨rfl, hb⟩; obtain ⟨ly, ny, rfl⟩ := more_of_below hb; clear hb)
      | (go_at_call 19; refine (lives0 _).mono ?_; rintro e w1 ⟨rfl, hb⟩; obtain ⟨lf, nf, rfl⟩ := more_of_below hb; clear hb))
    go_ret
    exact ⟨rfl, (by repeat (first | with_reducible exact Below.refl _ _ | with_reducible assumption | with_reducible refine below_more' ?_ (by go_size) | with_reducible refine bel_alloc ?_ _ (by go_size) | with_reducible refine Below.drew ?_ | with_reducible refine Below.setCell ?_ (by go_size) _ | with_reducible refine below_drewN ?_ _))⟩
theorem evalParts (op one two text : Int) (hi : Is64 op ∧ Is64 one ∧ Is64 two ∧ Is64 text) (x y : V) (hx : Fits x) (hy : Fits y) (w : World) (hp : Pow10 w) : Calls Tryz.prog 5 #[.agg #[.int .i64 op, .int .i64 x.tag, .int .i64 x.num, .string x.str, .bool x.is, .int .i64 x.code, .int .i64 y.tag, .int .i64 y.num, .string y.str, .bool y.is, .int .i64 y.code, .int .i64 one, .int .i64 two, .int .i64 text]] w fun e w' => e = .returned (.bool true) ∧ Below w.heap.size w w' := by
  cases mx : mayG x with
  | false => exact parts_other op one two text x y hx hy (.inl mx) w
  | true =>
    cases my : mayG y with
    | false => exact parts_other op one two text x y hx hy (.inr my) w
    | true => exact parts_main op one two text hi x y hx hy mx my w hp
end Go.Proofs.YtegbhdeaicgpkaaGreatDoor
