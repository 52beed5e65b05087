/-
  Arguments: their cells; the program's funcs.may at a single argument, and the closure that gathers the values of single arguments and asks a function.
-/
import Derived.Test.YtpcihefhagipmaaGreatDoorFun
import Derived.WalkKit
namespace Go.Proofs.YtpcihefhagipmaaGreatDoor
open Go Go.RowKit

structure Arg where
  many : Bool
  val : V
  top : Int
  left : Int
  bottom : Int
  right : Int
  ents : Option Addr
  n : Nat
  c : Nat
def Arg.agg (a : Arg) : Value := .agg #[.bool a.many, .int .i64 a.val.tag, .int .i64 a.val.num, .string a.val.str, .bool a.val.is, .int .i64 a.val.code, .int .i64 a.top, .int .i64 a.left, .int .i64 a.bottom, .int .i64 a.right, .slice a.ents a.n a.c]
def Arg.cells (a : Arg) : List Value := [.bool a.many, .int .i64 a.val.tag, .int .i64 a.val.num, .string a.val.str, .bool a.val.is, .int .i64 a.val.code, .int .i64 a.top, .int .i64 a.left, .int .i64 a.bottom, .int .i64 a.right, .slice a.ents a.n a.c]
def argFlat (xs : List Arg) : List Value := xs.flatMap Arg.cells
theorem argFlat_cons (a : Arg) (xs : List Arg) : argFlat (a :: xs) = a.cells ++ argFlat xs := rfl
theorem argFlat_length (xs : List Arg) : (argFlat xs).length = xs.length * 11 := by
  induction xs with
  | nil => rfl
  | cons v vs ih => rw [argFlat_cons, List.length_append, ih, List.length_cons]; simp [Arg.cells]; omega
theorem argFlat_at (xs : List Arg) (k : Nat) (a : Arg) (h : xs[k]? = some a) (j : Nat) (u : Value) (hu : a.cells[j]? = some u) : (argFlat xs)[k * 11 + j]? = some u := by
  induction xs generalizing k with
  | nil => simp at h
  | cons x xs ih =>
    have hj : j < 11 := (List.getElem?_eq_some_iff.1 hu).1
    rw [argFlat_cons]
    cases k with
    | zero =>
      simp at h
      subst h
      rw [List.getElem?_append_left (by simp [Arg.cells]; omega)]
      simpa using hu
    | succ k =>
      rw [List.getElem?_append_right (by simp [Arg.cells]; omega)]
      have := ih k (by simpa using h)
      have e : (k + 1) * 11 + j - x.cells.length = k * 11 + j := by simp [Arg.cells]; omega
      rw [e]
      exact this
def single (v : V) : Arg := ⟨false, v, 0, 0, 0, 0, none, 0, 0⟩

theorem rect0 (w : World) : (binOp .eql 31 (.agg #[.int .i64 0, .int .i64 0, .int .i64 0, .int .i64 0]) (.agg #[.int .i64 0, .int .i64 0, .int .i64 0, .int .i64 0])).run Tryz.prog w = .ok (.bool true) w := by
  rw [run_eql_struct]
  go_simp
theorem may_single (v : V) (w : World) : Calls Tryz.prog 21 #[(single v).agg] w fun e w' => e = .returned (.bool (mayG v)) ∧ Below w.heap.size w w' := by
  have hq := rect0
  unfold single Arg.agg
  dsimp only
  go_enter Tryz.func21, Tryz.ntmps21
  go_wp2_with (first | (go_at_call 35; refine (value_May _ _).mono ?_; rintro e w1 ⟨rfl, hb⟩; obtain ⟨l, n, rfl⟩ := more_of_below hb; clear hb))
  all_goals go_ret
  exact ⟨rfl, (by repeat (first | with_reducible exact Below.refl _ _ | with_reducible assumption | with_reducible refine below_more' ?_ (by go_size) | with_reducible refine bel_alloc ?_ _ (by go_size) | with_reducible refine Below.drew ?_ | with_reducible refine Below.setCell ?_ (by go_size) _ | with_reducible refine below_drewN ?_ _))⟩
end Go.Proofs.YtpcihefhagipmaaGreatDoor
