/-
  Parts of a proof: Num, EvalA.
-/
import Derived.Test.YtegbhdeaicgpkaaGreatDoorJ01
set_option linter.all false
namespace Go.Proofs.YtegbhdeaicgpkaaGreatDoor
open Go Go.RowKit
def asNumG (v : V) : Int × Int := if mayG v = false then (0, 8) else if v.tag = 4 then (0, v.code) else if v.tag = 2 then (0, 4) else if v.tag = 3 then (if v.is then 10000 else 0, 0) else (v.num, 0)
def asBoolG (v : V) : Bool × Int := ((asNumG v).1 != 0, (asNumG v).2)
def truthI (b : Bool) : Int := if b then 1 else 0
theorem truthI_nonneg (b : Bool) : 0 ≤ truthI b := by cases b <;> decide
theorem truthI_le (b : Bool) : truthI b ≤ 1 := by cases b <;> decide
theorem truthI_mul (b : Bool) : truthI b * 10000 = if b then 10000 else 0 := by cases b <;> rfl
theorem value_truth (b : Bool) (w : World) : Calls Tryz.prog 79 #[.bool b] w fun e w' => e = .returned (.int .i64 (truthI b)) ∧ w = w' := by
  cases b
  all_goals
    go_enter Tryz.func79, Tryz.ntmps79
    go_wp2
    go_ret
    exact ⟨rfl, rfl⟩
theorem value_AsNumber (v : V) (w : World) : Calls Tryz.prog 31 #[(Value.agg #[Value.int .i64 v.tag, Value.int .i64 v.num, Value.string v.str, Value.bool v.is, Value.int .i64 v.code])] w fun e w' => e = .returned (.tuple #[.int .i64 (asNumG v).1, .int .i64 (asNumG v).2]) ∧ Below w.heap.size w w' := by
  by_cases hm : mayG v = false
  · have e : asNumG v = (0, 8) := by simp [asNumG, hm]
    rw [e]
    go_enter Tryz.func31, Tryz.ntmps31
    go_wp2_with fail
    refine (value_May _ _).mono ?_
    rintro e w1 ⟨rfl, hb⟩
    obtain ⟨l, n, rfl⟩ := more_of_below hb
    clear hb
    go_wp2
    go_ret2
    exact ⟨rfl, (by (with_reducible repeat' (first | exact .refl _ _ | assumption | refine bmP ?_ ?_ | refine baP ?_ _ ?_ | refine .drew ?_ | refine .setCell ?_ ?_ _ | refine bdP ?_ _)) <;> go_size)⟩
  · have hm' : mayG v = true := by simpa using hm
    by_cases h4 : v.tag = 4
    · have e : asNumG v = (0, v.code) := by simp [asNumG, hm', h4]
      rw [e]
      replace h4 : (v.tag == 4) = true := beq_iff_eq.2 h4
      go_enter Tryz.func31, Tryz.ntmps31
      go_wp2_with fail
      refine (value_May _ _).mono ?_
      rintro e w1 ⟨rfl, hb⟩
      obtain ⟨l, n, rfl⟩ := more_of_below hb
      clear hb
      go_wp2
      go_quiet (fail)
      go_wp2
      go_ret2
      exact ⟨rfl, (by (with_reducible repeat' (first | exact .refl _ _ | assumption | refine bmP ?_ ?_ | refine baP ?_ _ ?_ | refine .drew ?_ | refine .setCell ?_ ?_ _ | refine bdP ?_ _)) <;> go_size)⟩
    · by_cases h2 : v.tag = 2
      · have e : asNumG v = (0, 4) := by simp [asNumG, hm', h2]
        rw [e]
        replace h4 : (v.tag == 4) = false := beq_eq_false_iff_ne.2 h4
        replace h2 : (v.tag == 2) = true := beq_iff_eq.2 h2
        go_enter Tryz.func31, Tryz.ntmps31
        go_wp2_with fail
        refine (value_May _ _).mono ?_
        rintro e w1 ⟨rfl, hb⟩
        obtain ⟨l, n, rfl⟩ := more_of_below hb
        clear hb
        go_wp2
        go_ret2
        exact ⟨rfl, (by (with_reducible repeat' (first | exact .refl _ _ | assumption | refine bmP ?_ ?_ | refine baP ?_ _ ?_ | refine .drew ?_ | refine .setCell ?_ ?_ _ | refine bdP ?_ _)) <;> go_size)⟩
      · by_cases h3 : v.tag = 3
        · have e : asNumG v = (if v.is then 10000 else 0, 0) := by simp [asNumG, hm', h3]
          rw [e]
          replace h4 : (v.tag == 4) = false := beq_eq_false_iff_ne.2 h4
          replace h2 : (v.tag == 2) = false := beq_eq_false_iff_ne.2 h2
          replace h3 : (v.tag == 3) = true := beq_iff_eq.2 h3
          have hb0 := truthI_nonneg v.is
          have hb1 := truthI_le v.is
          rw [← truthI_mul]
          go_enter Tryz.func31, Tryz.ntmps31
          go_wp2_with fail
          refine (value_May v _).mono ?_
          rintro e w1 ⟨rfl, hb⟩
          obtain ⟨l, n, rfl⟩ := more_of_below hb
          clear hb
          go_wp2_with (go_at_call 79; refine (value_truth _ _).mono ?_; rintro e w1 ⟨rfl, rfl⟩)
          go_ret2
          exact ⟨rfl, (by (with_reducible repeat' (first | exact .refl _ _ | assumption | refine bmP ?_ ?_ | refine baP ?_ _ ?_ | refine .drew ?_ | refine .setCell ?_ ?_ _ | refine bdP ?_ _)) <;> go_size)⟩
        · have e : asNumG v = (v.num, 0) := by simp [asNumG, hm', h4, h2, h3]
          rw [e]
          replace h4 : (v.tag == 4) = false := beq_eq_false_iff_ne.2 h4
          replace h2 : (v.tag == 2) = false := beq_eq_false_iff_ne.2 h2
          replace h3 : (v.tag == 3) = false := beq_eq_false_iff_ne.2 h3
          go_enter Tryz.func31, Tryz.ntmps31
          go_wp2_with fail
          refine (value_May _ _).mono ?_
          rintro e w1 ⟨rfl, hb⟩
          obtain ⟨l, n, rfl⟩ := more_of_below hb
          clear hb
          go_wp2
          go_ret2
          exact ⟨rfl, (by (with_reducible repeat' (first | exact .refl _ _ | assumption | refine bmP ?_ ?_ | refine baP ?_ _ ?_ | refine .drew ?_ | refine .setCell ?_ ?_ _ | refine bdP ?_ _)) <;> go_size)⟩
theorem value_AsBool (v : V) (w : World) : Calls Tryz.prog 250 #[(Value.agg #[Value.int .i64 v.tag, Value.int .i64 v.num, Value.string v.str, Value.bool v.is, Value.int .i64 v.code])] w fun e w' => e = .returned (.tuple #[.bool (asBoolG v).1, .int .i64 (asBoolG v).2]) ∧ Below w.heap.size w w' := by
  go_enter Tryz.func250, Tryz.ntmps250
  go_wp2_with fail
  refine (value_AsNumber _ _).mono ?_
  rintro e w1 ⟨rfl, hb⟩
  obtain ⟨l, n, rfl⟩ := more_of_below hb
  clear hb
  go_wp2
  go_ret2
  exact ⟨rfl, (by (with_reducible repeat' (first | exact .refl _ _ | assumption | refine bmP ?_ ?_ | refine baP ?_ _ ?_ | refine .drew ?_ | refine .setCell ?_ ?_ _ | refine bdP ?_ _)) <;> go_size)⟩
def wholeG (x : Int) : Int × Bool := if x = minI ∨ x.tmod 10000 ≠ 0 then (0, false) else (x.tdiv 10000, true)
theorem dec_Whole (x : Int) (h0 : -9223372036854775808 ≤ x) (h1 : x ≤ 9223372036854775807) (w : World) : Calls Tryz.prog 36 #[.int .i64 x] w fun e w' => e = .returned (.tuple #[.int .i64 (wholeG x).1, .bool (wholeG x).2]) ∧ w = w' := by
  by_cases hx : x = minI
  · have e : wholeG x = (0, false) := by simp [wholeG, hx]
    rw [e]
    replace hx : (x != minI) = false := by simp [hx]
    clear h0 h1
    go_enter Tryz.func36, Tryz.ntmps36
    go_wp2_with fail
    refine (dec_May _ _).mono ?_
    rintro e w1 ⟨rfl, rfl⟩
    go_wp2
    go_ret2
    exact ⟨rfl, rfl⟩
  · by_cases hr : x.tmod 10000 = 0
    · have e : wholeG x = (x.tdiv 10000, true) := by simp [wholeG, hx, hr]
      rw [e]
      replace hx : (x != minI) = true := by simp [hx]
      replace hr : (x.tmod 10000 != 0) = false := by simp [hr]
      go_enter Tryz.func36, Tryz.ntmps36
      go_wp2_with fail
      refine (dec_May _ _).mono ?_
      rintro e w1 ⟨rfl, rfl⟩
      go_wp2
      go_ret2
      exact ⟨rfl, rfl⟩
    · have e : wholeG x = (0, false) := by simp [wholeG, hr]
      rw [e]
      replace hx : (x != minI) = true := by simp [hx]
      replace hr : (x.tmod 10000 != 0) = true := by simp [hr]
      go_enter Tryz.func36, Tryz.ntmps36
      go_wp2_with fail
      refine (dec_May _ _).mono ?_
      rintro e w1 ⟨rfl, rfl⟩
      go_wp2
      go_ret2
      exact ⟨rfl, rfl⟩
end Go.Proofs.YtegbhdeaicgpkaaGreatDoor
namespace Go.Proofs.YtegbhdeaicgpkaaGreatDoor
open Go Go.RowKit
theorem addr_May_yes (r c : Int) (h1 : 1 ≤ r) (h2 : r ≤ 4096) (h3 : 1 ≤ c) (h4 : c ≤ 256) (w : World) : Calls Tryz.prog 145 #[.agg #[.int .i64 r, .int .i64 c]] w fun e w' => e = .returned (.bool true) ∧ Below w.heap.size w w' := by
  go_enter Tryz.func145, Tryz.ntmps145
  go_wp2
  go_ret
  exact ⟨rfl, (by (with_reducible repeat' (first | exact .refl _ _ | assumption | refine bmP ?_ ?_ | refine baP ?_ _ ?_ | refine .drew ?_ | refine .setCell ?_ ?_ _ | refine bdP ?_ _)) <;> go_size)⟩
structure Nd where
  kind : Int
  v : V
  row : Int
  col : Int
  op : Int
def Nd.cells (x : Nd) : List Value := [.int .i64 x.kind, .int .i64 x.v.tag, .int .i64 x.v.num, .string x.v.str, .bool x.v.is, .int .i64 x.v.code, .int .i64 x.row, .int .i64 x.col, .int .i64 0, .int .i64 0, .int .i64 0, .int .i64 0, .int .i64 x.op, .string ⟨#[]⟩, .int .i64 0]
def Nd.val (x : Nd) : Value := .agg #[.int .i64 x.kind, .int .i64 x.v.tag, .int .i64 x.v.num, .string x.v.str, .bool x.v.is, .int .i64 x.v.code, .int .i64 x.row, .int .i64 x.col, .int .i64 0, .int .i64 0, .int .i64 0, .int .i64 0, .int .i64 x.op, .string ⟨#[]⟩, .int .i64 0]
def V0 : V := ⟨0, 0, ⟨#[]⟩, false, 0⟩
def Nd.cell (r c : Int) : Nd := ⟨2, V0, r, c, 0⟩
def Nd.opn (k : Int) : Nd := ⟨4, V0, 0, 0, k⟩
def Nd.value (v : V) : Nd := ⟨1, v, 0, 0, 0⟩
def nd0 (k : Int) : Value := .agg #[.int .i64 k, .int .i64 0, .int .i64 0, .string ⟨#[]⟩, .bool false, .int .i64 0, .int .i64 0, .int .i64 0, .int .i64 0, .int .i64 0, .int .i64 0, .int .i64 0, .int .i64 0, .string ⟨#[]⟩, .int .i64 0]
theorem eq_nd1 (w : World) : (binOp .eql 54 (nd0 1) (nd0 1)).run Tryz.prog w = .ok (.bool true) w := by kernel_rfl
theorem eq_nd2 (w : World) : (binOp .eql 54 (nd0 2) (nd0 2)).run Tryz.prog w = .ok (.bool true) w := by kernel_rfl
theorem eq_nd4 (w : World) : (binOp .eql 54 (nd0 4) (nd0 4)).run Tryz.prog w = .ok (.bool true) w := by kernel_rfl
theorem may_cell (r c : Int) (h1 : 1 ≤ r) (h2 : r ≤ 4096) (h3 : 1 ≤ c) (h4 : c ≤ 256) (w : World) : Calls Tryz.prog 196 #[(Nd.cell r c).val] w fun e w' => e = .returned (.bool true) ∧ Below w.heap.size w w' := by
  have he := eq_nd2
  unfold nd0 at he
  unfold Nd.val Nd.cell V0
  dsimp only
  go_enter Tryz.func196, Tryz.ntmps196
  go_wp2_with (first | (go_at_call 145; refine (addr_May_yes r c h1 h2 h3 h4 _).mono ?_; rintro e w1 ⟨rfl, hb⟩; obtain ⟨l, n, rfl⟩ := more_of_below hb; clear hb))
  go_ret
  exact ⟨rfl, (by (with_reducible repeat' (first | exact .refl _ _ | assumption | refine bmP ?_ ?_ | refine baP ?_ _ ?_ | refine .drew ?_ | refine .setCell ?_ ?_ _ | refine bdP ?_ _)) <;> go_size)⟩
theorem may_op (k : Int) (h1 : 1 ≤ k) (h2 : k ≤ 13) (w : World) : Calls Tryz.prog 196 #[(Nd.opn k).val] w fun e w' => e = .returned (.bool true) ∧ Below w.heap.size w w' := by
  have he := eq_nd4
  unfold nd0 at he
  unfold Nd.val Nd.opn V0
  dsimp only
  go_enter Tryz.func196, Tryz.ntmps196
  go_wp2
  go_ret
  exact ⟨rfl, (by (with_reducible repeat' (first | exact .refl _ _ | assumption | refine bmP ?_ ?_ | refine baP ?_ _ ?_ | refine .drew ?_ | refine .setCell ?_ ?_ _ | refine bdP ?_ _)) <;> go_size)⟩
theorem may_value (v : V) (hm : mayG v = true) (h0 : v.tag ≠ 0) (h1 : 0 ≤ v.num) (h2 : v.code ≠ 1) (w : World) : Calls Tryz.prog 196 #[(Nd.value v).val] w fun e w' => e = .returned (.bool true) ∧ Below w.heap.size w w' := by
  have he := eq_nd1
  unfold nd0 at he
  have hb0 : (v.tag == 0) = false := by simp [h0]
  have hb2 : (v.code == 1) = false := by simp [h2]
  have HM := Lib.hid hm
  clear hm h0 h2
  unfold Nd.val Nd.value
  dsimp only
  go_enter Tryz.func196, Tryz.ntmps196
  go_wp2_with (first | (go_at_call 50; refine (value_May v _).mono ?_; rw [HM.out]; rintro e w1 ⟨rfl, hb⟩; obtain ⟨l, n, rfl⟩ := more_of_below hb; clear hb))
  go_ret
  exact ⟨rfl, (by (with_reducible repeat' (first | exact .refl _ _ | assumption | refine bmP ?_ ?_ | refine baP ?_ _ ?_ | refine .drew ?_ | refine .setCell ?_ ?_ _ | refine bdP ?_ _)) <;> go_size)⟩
def lev (k : Int) : Int := if k = 1 then 5 else if k = 2 then 6 else if k = 3 ∨ k = 4 then 4 else if k = 5 ∨ k = 6 then 3 else if k = 7 then 2 else 1
theorem refs_level (k : Int) (h1 : 1 ≤ k) (h2 : k ≤ 13) (w : World) : Calls Tryz.prog 197 #[.int .i64 k] w fun e w' => e = .returned (.int .i64 (lev k)) ∧ w = w' := by
  have hk : k = 1 ∨ k = 2 ∨ k = 3 ∨ k = 4 ∨ k = 5 ∨ k = 6 ∨ k = 7 ∨ k = 8 ∨ k = 9 ∨ k = 10 ∨ k = 11 ∨ k = 12 ∨ k = 13 := by omega
  clear h1 h2
  rcases hk with rfl | rfl | rfl | rfl | rfl | rfl | rfl | rfl | rfl | rfl | rfl | rfl | rfl
  all_goals
    go_enter Tryz.func197, Tryz.ntmps197
    go_wp2
    go_ret
    exact ⟨rfl, rfl⟩
def insG (d b least : Int) : Int := if b < least then d + 1 else d
theorem part_inside (d b least : Int) (h0 : 0 ≤ d) (h1 : d ≤ 1000000) (w : World) : Calls Tryz.prog 198 #[.agg #[.int .i64 d, .int .i64 b, .bool false], .int .i64 least] w fun e w' => e = .returned (.int .i64 (insG d b least)) ∧ Below w.heap.size w w' := by
  by_cases h : b < least
  · have e : insG d b least = d + 1 := if_pos h
    rw [e]
    go_enter Tryz.func198, Tryz.ntmps198
    go_wp2
    go_ret
    exact ⟨rfl, (by (with_reducible repeat' (first | exact .refl _ _ | assumption | refine bmP ?_ ?_ | refine baP ?_ _ ?_ | refine .drew ?_ | refine .setCell ?_ ?_ _ | refine bdP ?_ _)) <;> go_size)⟩
  · have e : insG d b least = d := if_neg h
    rw [e]
    go_enter Tryz.func198, Tryz.ntmps198
    go_wp2
    go_ret
    exact ⟨rfl, (by (with_reducible repeat' (first | exact .refl _ _ | assumption | refine bmP ?_ ?_ | refine baP ?_ _ ?_ | refine .drew ?_ | refine .setCell ?_ ?_ _ | refine bdP ?_ _)) <;> go_size)⟩
theorem dec_Add_pos (a b : Int) (h0 : 0 < a) (h1 : 0 < b) (h2 : a ≤ 1000000000) (h3 : b ≤ 1000000000) (w : World) : Calls Tryz.prog 199 #[.int .i64 a, .int .i64 b] w fun e w' => e = .returned (.tuple #[.int .i64 (a + b), .int .i64 0]) ∧ w = w' := by
  have m1 : (a != minI) = true := by simp [minI]; omega
  have m2 : (b != minI) = true := by simp [minI]; omega
  have m3 : (a + b != minI) = true := by simp [minI]; omega
  go_enter Tryz.func199, Tryz.ntmps199
  go_wp2_with (go_at_call 102; refine (dec_May _ _).mono ?_; rintro e w1 ⟨rfl, rfl⟩)
  go_ret2
  exact ⟨rfl, rfl⟩
end Go.Proofs.YtegbhdeaicgpkaaGreatDoor
