/-
  The program's dec.Add, dec.Sub, dec.size, dec.signed: what each answers, for every number.
-/
import Derived.Test.YtegbhdeaicgpkaaGreatDoorOpL
namespace Go.Proofs.YtegbhdeaicgpkaaGreatDoor
open Go Go.RowKit

theorem natAbs_lt {a : Int} (h : Is64 a) : a.natAbs ≤ 9223372036854775808 := by unfold Is64 at h; omega
theorem add_no {a b : Int} (ha : Is64 a) (hb : Is64 b) (h : a = minI ∨ b = minI ∨ wrap64 (a + b) = minI ∨ (¬ decide (a < wrap64 (a + b)) = decide (0 < b)) ∧ (b != 0) = true) : addX a b = (0, 2) := by
  unfold Is64 at ha hb
  unfold addX
  refine if_pos ?_
  rcases h with h | h | h | ⟨h, h0⟩
  · exact .inl h
  · exact .inr (.inl h)
  · unfold minI wrap64 at *
    omega
  · rw [decide_eq_decide] at h
    have h0 : b ≠ 0 := by simpa using h0
    unfold minI wrap64 at *
    omega
theorem add_yes {a b : Int} (ha : Is64 a) (hb : Is64 b) (h1 : ¬ a = minI) (h2 : ¬ b = minI) (h3 : ¬ wrap64 (a + b) = minI) (h : decide (a < wrap64 (a + b)) = decide (0 < b) ∨ (b != 0) = false) : addX a b = (wrap64 (a + b), 0) := by
  unfold Is64 at ha hb
  have e : wrap64 (a + b) = a + b ∧ -9223372036854775807 ≤ a + b ∧ a + b ≤ 9223372036854775807 := by
    rcases h with h | h
    · rw [decide_eq_decide] at h
      unfold minI wrap64 at *
      omega
    · have h0 : b = 0 := by simpa using h
      unfold minI wrap64 at *
      omega
  obtain ⟨e1, e2, e3⟩ := e
  rw [e1]
  unfold addX
  refine if_neg ?_
  rintro (h | h | h | h)
  · exact h1 h
  · exact h2 h
  · omega
  · omega
theorem dec_Add (a b : Int) (ha : Is64 a) (hb : Is64 b) (w : World) : Calls Tryz.prog 199 #[.int .i64 a, .int .i64 b] w fun e w' => e = .returned (.tuple #[.int .i64 (addX a b).1, .int .i64 (addX a b).2]) ∧ w = w' := by
  go_enter Tryz.func199, Tryz.ntmps199
  go_wp2_with (go_at_call 102; refine (dec_May _ _).mono ?_; rintro e w1 ⟨rfl, rfl⟩)
  · rw [add_no ha hb (.inl ‹_›)]; go_ret2; exact ⟨rfl, rfl⟩
  · rw [add_no ha hb (.inr (.inl ‹_›))]; go_ret2; exact ⟨rfl, rfl⟩
  · rw [add_no ha hb (.inr (.inr (.inl ‹_›)))]; go_ret2; exact ⟨rfl, rfl⟩
  · rw [add_no ha hb (.inr (.inr (.inr ⟨‹¬ decide _ = decide _›, ‹_›⟩)))]; go_ret2; exact ⟨rfl, rfl⟩
  · rw [add_yes ha hb ‹¬ a = minI› ‹¬ b = minI› ‹¬ wrap64 _ = minI› (.inr ‹_›)]; go_ret2; exact ⟨rfl, rfl⟩
  · rw [add_yes ha hb ‹¬ a = minI› ‹¬ b = minI› ‹¬ wrap64 _ = minI› (.inl ‹_›)]; go_ret2; exact ⟨rfl, rfl⟩
theorem dec_Sub (a b : Int) (ha : Is64 a) (hb : Is64 b) (w : World) : Calls Tryz.prog 149 #[.int .i64 a, .int .i64 b] w fun e w' => e = .returned (.tuple #[.int .i64 (subX a b).1, .int .i64 (subX a b).2]) ∧ w = w' := by
  unfold Is64 at hb
  by_cases h : b = minI
  · rw [show subX a b = (0, 2) from if_pos h]
    go_enter Tryz.func149, Tryz.ntmps149
    go_wp2_with (go_at_call 102; refine (dec_May _ _).mono ?_; rintro e w1 ⟨rfl, rfl⟩)
    go_ret2
    exact ⟨rfl, rfl⟩
  · rw [show subX a b = addX a (-b) from if_neg h]
    have hb' : Is64 (-b) := by unfold Is64; unfold minI at h; omega
    have m2 : (b != minI) = true := by simp [h]
    have hb1 : -9223372036854775808 ≤ -b := hb'.1
    have hb2 : -b ≤ 9223372036854775807 := hb'.2
    go_enter Tryz.func149, Tryz.ntmps149
    go_wp2_with (first | (go_at_call 102; refine (dec_May _ _).mono ?_; rintro e w1 ⟨rfl, rfl⟩) | (go_at_call 199; refine (dec_Add a (-b) ha hb' _).mono ?_; rintro e w1 ⟨rfl, rfl⟩))
    go_ret2
    exact ⟨rfl, rfl⟩
theorem dec_size (x : Int) (h : Is64 x) (w : World) : Calls Tryz.prog 151 #[.int .i64 x] w fun e w' => e = .returned (.tuple #[.int .u64 ((x.natAbs : Nat) : Int), .bool (lowX x)]) ∧ w = w' := by
  unfold Is64 at h
  go_enter Tryz.func151, Tryz.ntmps151
  go_wp2
  · have e : IntKind.u64.wrap (-IntKind.u64.wrap x) = (x.natAbs : Int) := by
      rw [IntKind.wrap_u64, IntKind.wrap_u64]
      omega
    rw [e]
    go_ret2
    exact ⟨by rw [lowX, decide_eq_true (show x < 0 by omega)]; rfl, rfl⟩
  · have e : (x.natAbs : Int) = x := by omega
    rw [e]
    go_ret2
    exact ⟨by rw [lowX, decide_eq_false (show ¬ x < 0 by omega)]; rfl, rfl⟩
theorem dec_signed (n : Nat) (h : n < 18446744073709551616) (low : Bool) (w : World) : Calls Tryz.prog 153 #[.int .u64 n, .bool low] w fun e w' => e = .returned (.tuple #[.int .i64 (signX n low).1, .int .i64 (signX n low).2]) ∧ w = w' := by
  by_cases h1 : 9223372036854775807 < n
  · rw [show signX n low = (0, 2) from if_pos h1]
    have h2 : (9223372036854775807 : Int) < n := by omega
    go_enter Tryz.func153, Tryz.ntmps153
    go_wp2
    go_ret2
    exact ⟨rfl, rfl⟩
  · rw [show signX n low = (if low then -(n : Int) else n, 0) from if_neg h1]
    have h2 : ¬ (9223372036854775807 : Int) < n := by omega
    have h3 : (n : Int) ≤ 9223372036854775807 := by omega
    cases low
    all_goals go_enter Tryz.func153, Tryz.ntmps153
    all_goals go_wp2
    all_goals go_ret2
    all_goals exact ⟨rfl, rfl⟩
end Go.Proofs.YtegbhdeaicgpkaaGreatDoor
