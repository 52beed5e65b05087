/-
  The program's value.AsNumber, value.AsBool, dec.Whole: what each answers, for every value.
-/
import Derived.Test.YtegbhdeaicgpkaaGreatDoorMay
namespace Go.Proofs.YtegbhdeaicgpkaaGreatDoor
open Go Go.RowKit

def asNumG (v : V) : Int × Int := if mayG v = false then (0, 8) else if v.tag = 4 then (0, v.code) else if v.tag = 2 then (0, 4) else if v.tag = 3 then (if v.is then 10000 else 0, 0) else (v.num, 0)
def asBoolG (v : V) : Bool × Int := ((asNumG v).1 != 0, (asNumG v).2)

def truthI (b : Bool) : Int := if b then 1 else 0
theorem truthI_nonneg (b : Bool) : 0 ≤ truthI b := by cases b <;> decide
theorem truthI_le (b : Bool) : truthI b ≤ 1 := by cases b <;> decide
theorem truthI_mul (b : Bool) : truthI b * 10000 = if b then 10000 else 0 := by cases b <;> rfl
theorem value_truth (b : Bool) (w : World) : Calls Tryz.prog 79 #[.bool b] w fun e w' => e = .returned (.int .i64 (truthI b)) ∧ w = w' := by
  cases b
  all_goals
    go_enter Tryz.func79, Tryz.ntmps79
    go_wp2
    go_ret
    exact ⟨rfl, rfl⟩

theorem value_AsNumber (v : V) (w : World) : Calls Tryz.prog 31 #[(Value.agg #[Value.int .i64 (v).tag, Value.int .i64 (v).num, Value.string (v).str, Value.bool (v).is, Value.int .i64 (v).code])] w fun e w' => e = .returned (.tuple #[.int .i64 (asNumG v).1, .int .i64 (asNumG v).2]) ∧ Below w.heap.size w w' := by
  by_cases hm : mayG v = false
  · have e : asNumG v = (0, 8) := by simp [asNumG, hm]
    rw [e]
    go_enter Tryz.func31, Tryz.ntmps31
    go_wp2_with fail
    refine (value_May _ _).mono ?_
    rintro e w1 ⟨rfl, hb⟩
    obtain ⟨l, n, rfl⟩ := more_of_below hb
    clear hb
    go_wp2
    go_ret2
    exact ⟨rfl, (by repeat (first | with_reducible exact Below.refl _ _ | with_reducible assumption | with_reducible refine below_more' ?_ (by go_size) | with_reducible refine bel_alloc ?_ _ (by go_size) | with_reducible refine Below.drew ?_ | with_reducible refine Below.setCell ?_ (by go_size) _ | with_reducible refine below_drewN ?_ _))⟩
  · have hm' : mayG v = true := by simpa using hm
    by_cases h4 : v.tag = 4
    · have e : asNumG v = (0, v.code) := by simp [asNumG, hm', h4]
      rw [e]
      replace h4 : (v.tag == 4) = true := beq_iff_eq.2 h4
      go_enter Tryz.func31, Tryz.ntmps31
      go_wp2_with fail
      refine (value_May _ _).mono ?_
      rintro e w1 ⟨rfl, hb⟩
      obtain ⟨l, n, rfl⟩ := more_of_below hb
      clear hb
      go_wp2
      go_quiet (fail)
      go_wp2
      go_ret2
      exact ⟨rfl, (by repeat (first | with_reducible exact Below.refl _ _ | with_reducible assumption | with_reducible refine below_more' ?_ (by go_size) | with_reducible refine bel_alloc ?_ _ (by go_size) | with_reducible refine Below.drew ?_ | with_reducible refine Below.setCell ?_ (by go_size) _ | with_reducible refine below_drewN ?_ _))⟩
    · by_cases h2 : v.tag = 2
      · have e : asNumG v = (0, 4) := by simp [asNumG, hm', h2]
        rw [e]
        replace h4 : (v.tag == 4) = false := beq_eq_false_iff_ne.2 h4
        replace h2 : (v.tag == 2) = true := beq_iff_eq.2 h2
        go_enter Tryz.func31, Tryz.ntmps31
        go_wp2_with fail
        refine (value_May _ _).mono ?_
        rintro e w1 ⟨rfl, hb⟩
        obtain ⟨l, n, rfl⟩ := more_of_below hb
        clear hb
        go_wp2
        go_ret2
        exact ⟨rfl, (by repeat (first | with_reducible exact Below.refl _ _ | with_reducible assumption | with_reducible refine below_more' ?_ (by go_size) | with_reducible refine bel_alloc ?_ _ (by go_size) | with_reducible refine Below.drew ?_ | with_reducible refine Below.setCell ?_ (by go_size) _ | with_reducible refine below_drewN ?_ _))⟩
      · by_cases h3 : v.tag = 3
        · have e : asNumG v = (if v.is then 10000 else 0, 0) := by simp [asNumG, hm', h3]
          rw [e]
          replace h4 : (v.tag == 4) = false := beq_eq_false_iff_ne.2 h4
          replace h2 : (v.tag == 2) = false := beq_eq_false_iff_ne.2 h2
          replace h3 : (v.tag == 3) = true := beq_iff_eq.2 h3
          have hb0 := truthI_nonneg v.is
          have hb1 := truthI_le v.is
          rw [← truthI_mul]
          go_enter Tryz.func31, Tryz.ntmps31
          go_wp2_with fail
          refine (value_May v _).mono ?_
          rintro e w1 ⟨rfl, hb⟩
          obtain ⟨l, n, rfl⟩ := more_of_below hb
          clear hb
          go_wp2_with (go_at_call 79; refine (value_truth _ _).mono ?_; rintro e w1 ⟨rfl, rfl⟩)
          go_ret2
          exact ⟨rfl, (by repeat (first | with_reducible exact Below.refl _ _ | with_reducible assumption | with_reducible refine below_more' ?_ (by go_size) | with_reducible refine bel_alloc ?_ _ (by go_size) | with_reducible refine Below.drew ?_ | with_reducible refine Below.setCell ?_ (by go_size) _ | with_reducible refine below_drewN ?_ _))⟩
        · have e : asNumG v = (v.num, 0) := by simp [asNumG, hm', h4, h2, h3]
          rw [e]
          replace h4 : (v.tag == 4) = false := beq_eq_false_iff_ne.2 h4
          replace h2 : (v.tag == 2) = false := beq_eq_false_iff_ne.2 h2
          replace h3 : (v.tag == 3) = false := beq_eq_false_iff_ne.2 h3
          go_enter Tryz.func31, Tryz.ntmps31
          go_wp2_with fail
          refine (value_May _ _).mono ?_
          rintro e w1 ⟨rfl, hb⟩
          obtain ⟨l, n, rfl⟩ := more_of_below hb
          clear hb
          go_wp2
          go_ret2
          exact ⟨rfl, (by repeat (first | with_reducible exact Below.refl _ _ | with_reducible assumption | with_reducible refine below_more' ?_ (by go_size) | with_reducible refine bel_alloc ?_ _ (by go_size) | with_reducible refine Below.drew ?_ | with_reducible refine Below.setCell ?_ (by go_size) _ | with_reducible refine below_drewN ?_ _))⟩

theorem value_AsBool (v : V) (w : World) : Calls Tryz.prog 250 #[(Value.agg #[Value.int .i64 (v).tag, Value.int .i64 (v).num, Value.string (v).str, Value.bool (v).is, Value.int .i64 (v).code])] w fun e w' => e = .returned (.tuple #[.bool (asBoolG v).1, .int .i64 (asBoolG v).2]) ∧ Below w.heap.size w w' := by
  go_enter Tryz.func250, Tryz.ntmps250
  go_wp2_with fail
  refine (value_AsNumber _ _).mono ?_
  rintro e w1 ⟨rfl, hb⟩
  obtain ⟨l, n, rfl⟩ := more_of_below hb
  clear hb
  go_wp2
  go_ret2
  exact ⟨rfl, (by repeat (first | with_reducible exact Below.refl _ _ | with_reducible assumption | with_reducible refine below_more' ?_ (by go_size) | with_reducible refine bel_alloc ?_ _ (by go_size) | with_reducible refine Below.drew ?_ | with_reducible refine Below.setCell ?_ (by go_size) _ | with_reducible refine below_drewN ?_ _))⟩

def wholeG (x : Int) : Int × Bool := if x = minI ∨ x.tmod 10000 ≠ 0 then (0, false) else (x.tdiv 10000, true)
theorem dec_Whole (x : Int) (h0 : -9223372036854775808 ≤ x) (h1 : x ≤ 9223372036854775807) (w : World) : Calls Tryz.prog 36 #[.int .i64 x] w fun e w' => e = .returned (.tuple #[.int .i64 (wholeG x).1, .bool (wholeG x).2]) ∧ w = w' := by
  by_cases hx : x = minI
  · have e : wholeG x = (0, false) := by simp [wholeG, hx]
    rw [e]
    replace hx : (x != minI) = false := by simp [hx]
    clear h0 h1
    go_enter Tryz.func36, Tryz.ntmps36
    go_wp2_with fail
    refine (dec_May _ _).mono ?_
    rintro e w1 ⟨rfl, rfl⟩
    go_wp2
    go_ret2
    exact ⟨rfl, rfl⟩
  · by_cases hr : x.tmod 10000 = 0
    · have e : wholeG x = (x.tdiv 10000, true) := by simp [wholeG, hx, hr]
      rw [e]
      replace hx : (x != minI) = true := by simp [hx]
      replace hr : (x.tmod 10000 != 0) = false := by simp [hr]
      go_enter Tryz.func36, Tryz.ntmps36
      go_wp2_with fail
      refine (dec_May _ _).mono ?_
      rintro e w1 ⟨rfl, rfl⟩
      go_wp2
      go_ret2
      exact ⟨rfl, rfl⟩
    · have e : wholeG x = (0, false) := by simp [wholeG, hr]
      rw [e]
      replace hx : (x != minI) = true := by simp [hx]
      replace hr : (x.tmod 10000 != 0) = true := by simp [hr]
      go_enter Tryz.func36, Tryz.ntmps36
      go_wp2_with fail
      refine (dec_May _ _).mono ?_
      rintro e w1 ⟨rfl, rfl⟩
      go_wp2
      go_ret2
      exact ⟨rfl, rfl⟩
end Go.Proofs.YtegbhdeaicgpkaaGreatDoor
