/-
  Parts of a proof: OpL, OpsA.
-/
import Derived.Test.YtegbhdeaicgpkaaGreatDoorJ02
import Derived.Lib.Bytealg
import Derived.Lib.TrimByte
import Derived.Lib.ItoaNum
set_option linter.all false
namespace Go.Proofs.YtegbhdeaicgpkaaGreatDoor
open Go Go.RowKit
def Is64 (a : Int) : Prop := -9223372036854775808 ≤ a ∧ a ≤ 9223372036854775807
def addX (a b : Int) : Int × Int := if a = minI ∨ b = minI ∨ a + b < -9223372036854775807 ∨ 9223372036854775807 < a + b then (0, 2) else (a + b, 0)
def subX (a b : Int) : Int × Int := if b = minI then (0, 2) else addX a (-b)
def signX (n : Nat) (low : Bool) : Int × Int := if 9223372036854775807 < n then (0, 2) else (if low then -(n : Int) else n, 0)
def lowX (a : Int) : Bool := decide (a < 0)
def upX (q : Nat) (up : Bool) : Nat := if up && decide (q ≤ 9223372036854775807) then q + 1 else q
def mulX (a b : Int) : Int × Int := if a = minI ∨ b = minI then (0, 2) else
  if 10000 ≤ a.natAbs * b.natAbs / 18446744073709551616 then (0, 2) else
  signX (upX (a.natAbs * b.natAbs / 10000) (decide (5000 ≤ a.natAbs * b.natAbs % 10000))) (lowX a != lowX b)
def divX (a b : Int) : Int × Int := if a = minI ∨ b = minI then (0, 2) else if b = 0 then (0, 3) else
  if b.natAbs ≤ a.natAbs * 10000 / 18446744073709551616 then (0, 2) else
  signX (upX (a.natAbs * 10000 / b.natAbs) (decide (b.natAbs - a.natAbs * 10000 % b.natAbs ≤ a.natAbs * 10000 % b.natAbs))) (lowX a != lowX b)
def numC (p : Int × Int) : V := if p.2 ≠ 0 then errG p.2 else numG p.1
def opX (op : Int) (x y : Int) : Int × Int := if op = 3 then mulX x y else if op = 4 then divX x y else if op = 5 then addX x y else subX x y
def sumsG (op : Int) (a b : V) : V := if (asNumG a).2 ≠ 0 then errG (asNumG a).2 else if (asNumG b).2 ≠ 0 then errG (asNumG b).2 else numC (opX op (asNumG a).1 (asNumG b).1)
def cmpI (x y : Int) : Int := if x < y then -1 else if y < x then 1 else 0
def tagX (a b : V) : Int := if a.tag = 0 then b.tag else a.tag
def cmpV (a b : V) : Int := if mayG a = false ∨ mayG b = false ∨ a.tag = 4 ∨ b.tag = 4 then 0 else
  if tagX a b ≠ tagX b a then cmpI (tagX a b) (tagX b a) else if tagX a b = 1 then cmpI a.num b.num else if tagX a b = 2 then Lib.compareBytes a.str.data.toList b.str.data.toList else truthI a.is - truthI b.is
def relX (op k : Int) : Bool := if op = 8 then k == 0 else if op = 9 then k != 0 else if op = 10 then decide (k < 0) else if op = 11 then decide (k ≤ 0) else if op = 12 then decide (0 < k) else decide (0 ≤ k)
def comparedG (op : Int) (a b : V) : V := if a.tag = 4 then a else if b.tag = 4 then b else truthG (relX op (cmpV a b))
theorem addX_comm (a b : Int) : addX a b = addX b a := by
  unfold addX
  rw [Int.add_comm b a]
  by_cases h1 : a = minI <;> by_cases h2 : b = minI <;> simp [h1, h2]
theorem mulX_comm (a b : Int) : mulX a b = mulX b a := by
  unfold mulX
  rw [Nat.mul_comm b.natAbs a.natAbs, bne_comm (a := lowX b)]
  by_cases h1 : a = minI <;> by_cases h2 : b = minI <;> simp [h1, h2]
theorem cmpI_turn (x y : Int) : cmpI y x = -cmpI x y := by
  unfold cmpI
  by_cases h1 : x < y <;> by_cases h2 : y < x <;> simp [h1, h2]
  omega
theorem bytes_turn : ∀ a b : List UInt8, Lib.compareBytes b a = -Lib.compareBytes a b
  | [], [] => by rfl
  | [], _ :: _ => by simp [Lib.compareBytes]
  | _ :: _, [] => by simp [Lib.compareBytes]
  | a :: l, b :: m => by
    unfold Lib.compareBytes
    have ih := bytes_turn l m
    by_cases h1 : a < b <;> by_cases h2 : b < a <;> simp [h1, h2, ih]
    have := UInt8.lt_asymm h1
    contradiction
theorem cmpV_of {a b : V} (h1 : ¬ mayG a = false) (h2 : ¬ mayG b = false) (h3 : ¬ a.tag = 4) (h4 : ¬ b.tag = 4) : cmpV a b = if tagX a b ≠ tagX b a then cmpI (tagX a b) (tagX b a) else if tagX a b = 1 then cmpI a.num b.num else if tagX a b = 2 then Lib.compareBytes a.str.data.toList b.str.data.toList else truthI a.is - truthI b.is :=
  if_neg (by simp [h1, h2, h3, h4])
theorem cmpV_turn (a b : V) : cmpV b a = -cmpV a b := by
  by_cases h1 : mayG a = false
  · simp [cmpV, h1]
  by_cases h2 : mayG b = false
  · simp [cmpV, h2]
  by_cases h3 : a.tag = 4
  · simp [cmpV, h3]
  by_cases h4 : b.tag = 4
  · simp [cmpV, h4]
  rw [cmpV_of h1 h2 h3 h4, cmpV_of h2 h1 h4 h3]
  by_cases h5 : tagX a b = tagX b a
  · have e1 : ¬ tagX b a ≠ tagX a b := fun h => h h5.symm
    have e2 : ¬ tagX a b ≠ tagX b a := fun h => h h5
    rw [if_neg e1, if_neg e2, ← h5]
    by_cases h6 : tagX a b = 1
    · rw [if_pos h6, if_pos h6, cmpI_turn]
    · rw [if_neg h6, if_neg h6]
      by_cases h7 : tagX a b = 2
      · rw [if_pos h7, if_pos h7, bytes_turn]
      · rw [if_neg h7, if_neg h7]
        omega
  · have h6 : tagX b a ≠ tagX a b := fun e => h5 e.symm
    rw [if_pos h6, if_pos h5, cmpI_turn]
theorem bytes_self : ∀ a : List UInt8, Lib.compareBytes a a = 0 := fun a => by
  have := bytes_turn a a
  omega
theorem cmpV_self (a : V) : cmpV a a = 0 := by
  have := cmpV_turn a a
  omega
theorem asNum_code (a : V) (hm : mayG a = true) (h4 : a.tag ≠ 4) : (asNumG a).2 = 0 ∨ (asNumG a).2 = 4 := by
  unfold asNumG
  rw [if_neg (by simp [hm]), if_neg h4]
  split
  · exact .inr rfl
  · split <;> exact .inl rfl
theorem sums_turn (op : Int) (hop : op = 3 ∨ op = 5) (a b : V) (ha : mayG a = true) (hb : mayG b = true) (a4 : a.tag ≠ 4) (b4 : b.tag ≠ 4) : sumsG op a b = sumsG op b a := by
  unfold sumsG
  have e : opX op (asNumG a).1 (asNumG b).1 = opX op (asNumG b).1 (asNumG a).1 := by
    rcases hop with rfl | rfl
    · exact mulX_comm _ _
    · exact addX_comm _ _
  rw [e]
  rcases asNum_code a ha a4 with h1 | h1 <;> rcases asNum_code b hb b4 with h2 | h2 <;> simp [h1, h2]
theorem rel_turn (op op' k : Int) (h : (op = 8 ∧ op' = 8) ∨ (op = 9 ∧ op' = 9) ∨ (op = 10 ∧ op' = 12) ∨ (op = 12 ∧ op' = 10) ∨ (op = 11 ∧ op' = 13) ∨ (op = 13 ∧ op' = 11)) : relX op k = relX op' (-k) := by
  rcases h with ⟨rfl, rfl⟩ | ⟨rfl, rfl⟩ | ⟨rfl, rfl⟩ | ⟨rfl, rfl⟩ | ⟨rfl, rfl⟩ | ⟨rfl, rfl⟩
  all_goals (simp [relX]; try first | omega | (rw [Bool.eq_iff_iff]; simp))
theorem compared_turn (op op' : Int) (h : (op = 8 ∧ op' = 8) ∨ (op = 9 ∧ op' = 9) ∨ (op = 10 ∧ op' = 12) ∨ (op = 12 ∧ op' = 10) ∨ (op = 11 ∧ op' = 13) ∨ (op = 13 ∧ op' = 11)) (a b : V) (a4 : a.tag ≠ 4) (b4 : b.tag ≠ 4) : comparedG op a b = comparedG op' b a := by
  unfold comparedG
  rw [if_neg a4, if_neg b4, if_neg b4, if_neg a4, cmpV_turn a b, rel_turn op op' (cmpV a b) h]
end Go.Proofs.YtegbhdeaicgpkaaGreatDoor
namespace Go.Proofs.YtegbhdeaicgpkaaGreatDoor
open Go Go.RowKit
theorem natAbs_lt {a : Int} (h : Is64 a) : a.natAbs ≤ 9223372036854775808 := by unfold Is64 at h; omega
theorem add_no {a b : Int} (ha : Is64 a) (hb : Is64 b) (h : a = minI ∨ b = minI ∨ wrap64 (a + b) = minI ∨ (¬ decide (a < wrap64 (a + b)) = decide (0 < b)) ∧ (b != 0) = true) : addX a b = (0, 2) := by
  unfold Is64 at ha hb
  unfold addX
  refine if_pos ?_
  rcases h with h | h | h | ⟨h, h0⟩
  · exact .inl h
  · exact .inr (.inl h)
  · unfold minI wrap64 at *
    omega
  · rw [decide_eq_decide] at h
    have h0 : b ≠ 0 := by simpa using h0
    unfold minI wrap64 at *
    omega
theorem add_yes {a b : Int} (ha : Is64 a) (hb : Is64 b) (h1 : ¬ a = minI) (h2 : ¬ b = minI) (h3 : ¬ wrap64 (a + b) = minI) (h : decide (a < wrap64 (a + b)) = decide (0 < b) ∨ (b != 0) = false) : addX a b = (wrap64 (a + b), 0) := by
  unfold Is64 at ha hb
  have e : wrap64 (a + b) = a + b ∧ -9223372036854775807 ≤ a + b ∧ a + b ≤ 9223372036854775807 := by
    rcases h with h | h
    · rw [decide_eq_decide] at h
      unfold minI wrap64 at *
      omega
    · have h0 : b = 0 := by simpa using h
      unfold minI wrap64 at *
      omega
  obtain ⟨e1, e2, e3⟩ := e
  rw [e1]
  unfold addX
  refine if_neg ?_
  rintro (h | h | h | h)
  · exact h1 h
  · exact h2 h
  · omega
  · omega
theorem dec_Add (a b : Int) (ha : Is64 a) (hb : Is64 b) (w : World) : Calls Tryz.prog 199 #[.int .i64 a, .int .i64 b] w fun e w' => e = .returned (.tuple #[.int .i64 (addX a b).1, .int .i64 (addX a b).2]) ∧ w = w' := by
  go_enter Tryz.func199, Tryz.ntmps199
  go_wp2_with (go_at_call 102; refine (dec_May _ _).mono ?_; rintro e w1 ⟨rfl, rfl⟩)
  · rw [add_no ha hb (.inl ‹_›)]; go_ret2; exact ⟨rfl, rfl⟩
  · rw [add_no ha hb (.inr (.inl ‹_›))]; go_ret2; exact ⟨rfl, rfl⟩
  · rw [add_no ha hb (.inr (.inr (.inl ‹_›)))]; go_ret2; exact ⟨rfl, rfl⟩
  · rw [add_no ha hb (.inr (.inr (.inr ⟨‹¬ decide _ = decide _›, ‹_›⟩)))]; go_ret2; exact ⟨rfl, rfl⟩
  · rw [add_yes ha hb ‹¬ a = minI› ‹¬ b = minI› ‹¬ wrap64 _ = minI› (.inr ‹_›)]; go_ret2; exact ⟨rfl, rfl⟩
  · rw [add_yes ha hb ‹¬ a = minI› ‹¬ b = minI› ‹¬ wrap64 _ = minI› (.inl ‹_›)]; go_ret2; exact ⟨rfl, rfl⟩
theorem dec_Sub (a b : Int) (ha : Is64 a) (hb : Is64 b) (w : World) : Calls Tryz.prog 149 #[.int .i64 a, .int .i64 b] w fun e w' => e = .returned (.tuple #[.int .i64 (subX a b).1, .int .i64 (subX a b).2]) ∧ w = w' := by
  unfold Is64 at hb
  by_cases h : b = minI
  · rw [show subX a b = (0, 2) from if_pos h]
    go_enter Tryz.func149, Tryz.ntmps149
    go_wp2_with (go_at_call 102; refine (dec_May _ _).mono ?_; rintro e w1 ⟨rfl, rfl⟩)
    go_ret2
    exact ⟨rfl, rfl⟩
  · rw [show subX a b = addX a (-b) from if_neg h]
    have hb' : Is64 (-b) := by unfold Is64; unfold minI at h; omega
    have m2 : (b != minI) = true := by simp [h]
    have hb1 : -9223372036854775808 ≤ -b := hb'.1
    have hb2 : -b ≤ 9223372036854775807 := hb'.2
    go_enter Tryz.func149, Tryz.ntmps149
    go_wp2_with (first | (go_at_call 102; refine (dec_May _ _).mono ?_; rintro e w1 ⟨rfl, rfl⟩) | (go_at_call 199; refine (dec_Add a (-b) ha hb' _).mono ?_; rintro e w1 ⟨rfl, rfl⟩))
    go_ret2
    exact ⟨rfl, rfl⟩
theorem dec_size (x : Int) (h : Is64 x) (w : World) : Calls Tryz.prog 151 #[.int .i64 x] w fun e w' => e = .returned (.tuple #[.int .u64 ((x.natAbs : Nat) : Int), .bool (lowX x)]) ∧ w = w' := by
  unfold Is64 at h
  go_enter Tryz.func151, Tryz.ntmps151
  go_wp2
  · have e : IntKind.u64.wrap (-IntKind.u64.wrap x) = (x.natAbs : Int) := by
      rw [IntKind.wrap_u64, IntKind.wrap_u64]
      omega
    rw [e]
    go_ret2
    exact ⟨by rw [lowX, decide_eq_true (show x < 0 by omega)]; rfl, rfl⟩
  · have e : (x.natAbs : Int) = x := by omega
    rw [e]
    go_ret2
    exact ⟨by rw [lowX, decide_eq_false (show ¬ x < 0 by omega)]; rfl, rfl⟩
theorem dec_signed (n : Nat) (h : n < 18446744073709551616) (low : Bool) (w : World) : Calls Tryz.prog 153 #[.int .u64 n, .bool low] w fun e w' => e = .returned (.tuple #[.int .i64 (signX n low).1, .int .i64 (signX n low).2]) ∧ w = w' := by
  by_cases h1 : 9223372036854775807 < n
  · rw [show signX n low = (0, 2) from if_pos h1]
    have h2 : (9223372036854775807 : Int) < n := by omega
    go_enter Tryz.func153, Tryz.ntmps153
    go_wp2
    go_ret2
    exact ⟨rfl, rfl⟩
  · rw [show signX n low = (if low then -(n : Int) else n, 0) from if_neg h1]
    have h2 : ¬ (9223372036854775807 : Int) < n := by omega
    have h3 : (n : Int) ≤ 9223372036854775807 := by omega
    cases low
    all_goals go_enter Tryz.func153, Tryz.ntmps153
    all_goals go_wp2
    all_goals go_ret2
    all_goals exact ⟨rfl, rfl⟩
end Go.Proofs.YtegbhdeaicgpkaaGreatDoor
