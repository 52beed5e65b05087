/-
  dec.Div: what it answers, for every two numbers.
-/
import Derived.Test.YtegbhdeaicgpkaaGreatDoorOpsD
namespace Go.Proofs.YtegbhdeaicgpkaaGreatDoor
open Go Go.RowKit

theorem mul_scale (m hi lo : Nat) (hm : m < 18446744073709551616) (hhi : m * 10000 / 18446744073709551616 = hi) (hlo : m * 10000 % 18446744073709551616 = lo) (w : World) : Calls Tryz.prog 152 #[.int .u64 m, .int .u64 10000] w fun e w' => e = .returned (.tuple #[.int .u64 hi, .int .u64 lo]) ∧ w' = w := by
  obtain ⟨y, hy⟩ : ∃ y : Nat, y = 10000 := ⟨_, rfl⟩
  rw [← hy] at hhi hlo
  have h1 := Tryz.bits_Mul64 m y hm (by omega) w
  rw [hhi, hlo, show ((y : Nat) : Int) = 10000 by omega] at h1
  exact h1
set_option maxRecDepth 100000 in
set_option maxHeartbeats 1000000 in
theorem dec_Div (a b : Int) (ha : Is64 a) (hb : Is64 b) (w : World) : Calls Tryz.prog 135 #[.int .i64 a, .int .i64 b] w fun e w' => e = .returned (.tuple #[.int .i64 (divX a b).1, .int .i64 (divX a b).2]) ∧ Below w.heap.size w w' := by
  by_cases h1 : a = minI
  · rw [show divX a b = (0, 2) from if_pos (.inl h1)]
    clear ha hb
    go_enter Tryz.func135, Tryz.ntmps135
    go_wp2_with (go_at_call 102; refine (dec_May _ _).mono ?_; rintro e w1 ⟨rfl, rfl⟩)
    go_ret2
    exact ⟨rfl, (by repeat (first | with_reducible exact Below.refl _ _ | with_reducible assumption | with_reducible refine below_more' ?_ (by go_size) | with_reducible refine bel_alloc ?_ _ (by go_size) | with_reducible refine Below.drew ?_ | with_reducible refine Below.setCell ?_ (by go_size) _ | with_reducible refine below_drewN ?_ _))⟩
  by_cases h2 : b = minI
  · rw [show divX a b = (0, 2) from if_pos (.inr h2)]
    have m1 : (a != minI) = true := by simp [h1]
    clear ha hb
    go_enter Tryz.func135, Tryz.ntmps135
    go_wp2_with (go_at_call 102; refine (dec_May _ _).mono ?_; rintro e w1 ⟨rfl, rfl⟩)
    go_ret2
    exact ⟨rfl, (by repeat (first | with_reducible exact Below.refl _ _ | with_reducible assumption | with_reducible refine below_more' ?_ (by go_size) | with_reducible refine bel_alloc ?_ _ (by go_size) | with_reducible refine Below.drew ?_ | with_reducible refine Below.setCell ?_ (by go_size) _ | with_reducible refine below_drewN ?_ _))⟩
  have m1 : (a != minI) = true := by simp [h1]
  have m2 : (b != minI) = true := by simp [h2]
  by_cases h3 : b = 0
  · have e : divX a b = (0, 3) := by
      unfold divX
      rw [if_neg (fun h => h.elim h1 h2), if_pos h3]
    rw [e]
    have m3 : (b == 0) = true := by simp [h3]
    clear ha hb e h1 h2
    go_enter Tryz.func135, Tryz.ntmps135
    go_wp2_with (go_at_call 102; refine (dec_May _ _).mono ?_; rintro e w1 ⟨rfl, rfl⟩)
    go_ret2
    exact ⟨rfl, (by repeat (first | with_reducible exact Below.refl _ _ | with_reducible assumption | with_reducible refine below_more' ?_ (by go_size) | with_reducible refine bel_alloc ?_ _ (by go_size) | with_reducible refine Below.drew ?_ | with_reducible refine Below.setCell ?_ (by go_size) _ | with_reducible refine below_drewN ?_ _))⟩
  have na := natAbs_lt ha
  have nb := natAbs_lt hb
  have nz : 0 < b.natAbs := by omega
  have e : divX a b = if b.natAbs ≤ a.natAbs * 10000 / 18446744073709551616 then (0, 2) else signX (upX (a.natAbs * 10000 / b.natAbs) (decide (b.natAbs - a.natAbs * 10000 % b.natAbs ≤ a.natAbs * 10000 % b.natAbs))) (lowX a != lowX b) := by
    unfold divX
    rw [if_neg (fun h => h.elim h1 h2), if_neg h3]
  have m3 : (b == 0) = false := by simp [h3]
  obtain ⟨m, hm⟩ : ∃ m, a.natAbs = m := ⟨_, rfl⟩
  obtain ⟨n, hn⟩ : ∃ n, b.natAbs = n := ⟨_, rfl⟩
  rw [hm] at na e
  rw [hn] at nb e nz
  have hp := words_of (m * 10000)
  have hl : m * 10000 % 18446744073709551616 < 18446744073709551616 := Nat.mod_lt _ (by decide)
  obtain ⟨hi, hhi⟩ : ∃ hi, m * 10000 / 18446744073709551616 = hi := ⟨_, rfl⟩
  obtain ⟨lo, hlo⟩ : ∃ lo, m * 10000 % 18446744073709551616 = lo := ⟨_, rfl⟩
  rw [hhi, hlo] at hp
  rw [hhi] at e
  rw [hlo] at hl
  rw [← hp] at e
  obtain ⟨lw, hlw⟩ : ∃ lw, (lowX a != lowX b) = lw := ⟨_, rfl⟩
  rw [hlw] at e
  have HM := Lib.hid hm
  have HN := Lib.hid hn
  have HHI := Lib.hid hhi
  have HLO := Lib.hid hlo
  have HA := Lib.hid ha
  have HB := Lib.hid hb
  have NA := Lib.hid (show m < 18446744073709551616 by omega)
  have NB := Lib.hid (show n < 18446744073709551616 by omega)
  have HL := Lib.hid hl
  have NZ := Lib.hid nz
  have hq1 : hi < n → (hi * 18446744073709551616 + lo) / n < 18446744073709551616 := fun h => by
    rw [Nat.div_lt_iff_lt_mul nz]
    have : (hi + 1) * 18446744073709551616 ≤ n * 18446744073709551616 := Nat.mul_le_mul_right _ h
    omega
  clear hm hn hhi hlo ha hb na nb hl hp nz
  by_cases c1 : n ≤ hi
  · rw [if_pos c1] at e
    rw [e]
    have c1i : (n : Int) ≤ hi := by omega
    clear c1 e h1 h2 h3 hq1
    go_enter Tryz.func135, Tryz.ntmps135
    go_wp2_with (first
      | (go_at_call 102; refine (dec_May _ _).mono ?_; rintro e w1 ⟨rfl, rfl⟩)
      | (go_at_call_of 151 (Value.int .i64 a); refine (dec_size a HA.out _).mono ?_; rw [HM.out]; rintro e w1 ⟨rfl, rfl⟩)
      | (go_at_call_of 151 (Value.int .i64 b); refine (dec_size b HB.out _).mono ?_; rw [HN.out]; rintro e w1 ⟨rfl, rfl⟩)
      | (go_at_call 152; refine (mul_scale m hi lo NA.out HHI.out HLO.out _).mono ?_; rintro e w1 ⟨rfl, rfl⟩))
    go_ret2
    exact ⟨rfl, (by repeat (first | with_reducible exact Below.refl _ _ | with_reducible assumption | with_reducible refine below_more' ?_ (by go_size) | with_reducible refine bel_alloc ?_ _ (by go_size) | with_reducible refine Below.drew ?_ | with_reducible refine Below.setCell ?_ (by go_size) _ | with_reducible refine below_drewN ?_ _))⟩
  · rw [if_neg c1] at e
    have hq1 := hq1 (by omega)
    obtain ⟨q, hq⟩ : ∃ q, (hi * 18446744073709551616 + lo) / n = q := ⟨_, rfl⟩
    obtain ⟨r, hr⟩ : ∃ r, (hi * 18446744073709551616 + lo) % n = r := ⟨_, rfl⟩
    have hrn : r < n := by rw [← hr]; exact Nat.mod_lt _ NZ.out
    rw [hq, hr] at e
    rw [hq] at hq1
    rw [e]
    obtain ⟨d, hd⟩ : ∃ d, n - r = d := ⟨_, rfl⟩
    have wd : IntKind.u64.wrap ((n : Int) - (r : Int)) = (d : Int) := by have := NB.out; rw [IntKind.wrap_u64]; omega
    rw [hd]
    have HQ := Lib.hid hq
    have HR := Lib.hid hr
    have C1 := Lib.hid (show hi < n by omega)
    have Q1 := Lib.hid hq1
    have c1i : ¬ (n : Int) ≤ hi := by omega
    clear c1 e hq hr hq1 h1 h2 h3 hrn hd
    by_cases c2 : d ≤ r
    · have c2i : (d : Int) ≤ r := by omega
      by_cases c3 : q ≤ 9223372036854775807
      · have c3i : (q : Int) ≤ 9223372036854775807 := by omega
        rw [show upX q (decide (d ≤ r)) = q + 1 by simp [upX, c2, c3]]
        obtain ⟨q2, hq2⟩ : ∃ q2, q + 1 = q2 := ⟨_, rfl⟩
        have w2 : IntKind.u64.wrap ((q : Int) + 1) = (q2 : Int) := by rw [IntKind.wrap_u64]; omega
        have Q2 := Lib.hid (show q2 < 18446744073709551616 by omega)
        rw [hq2]
        clear c2 c3 hq2
        go_enter Tryz.func135, Tryz.ntmps135
        go_wp2_with (first
      | (go_at_call 102; refine (dec_May _ _).mono ?_; rintro e w1 ⟨rfl, rfl⟩)
      | (go_at_call_of 151 (Value.int .i64 a); refine (dec_size a HA.out _).mono ?_; rw [HM.out]; rintro e w1 ⟨rfl, rfl⟩)
      | (go_at_call_of 151 (Value.int .i64 b); refine (dec_size b HB.out _).mono ?_; rw [HN.out]; rintro e w1 ⟨rfl, rfl⟩)
      | (go_at_call 152; refine (mul_scale m hi lo NA.out HHI.out HLO.out _).mono ?_; rintro e w1 ⟨rfl, rfl⟩)
      | (go_at_call 186; refine (div_words hi lo n q r C1.out HL.out NB.out HQ.out HR.out _).mono ?_; rintro e w1 ⟨rfl, hb⟩; obtain ⟨l1, l2, rfl⟩ := more_of_below hb; clear hb)
      | (go_at_call 153; rw [show (!lowX a == lowX b) = lw from hlw]; refine (dec_signed q2 Q2.out lw _).mono ?_; rintro e w1 ⟨rfl, rfl⟩))
        go_ret2
        exact ⟨rfl, (by repeat (first | with_reducible exact Below.refl _ _ | with_reducible assumption | with_reducible refine below_more' ?_ (by go_size) | with_reducible refine bel_alloc ?_ _ (by go_size) | with_reducible refine Below.drew ?_ | with_reducible refine Below.setCell ?_ (by go_size) _ | with_reducible refine below_drewN ?_ _))⟩
      · have c3i : ¬ (q : Int) ≤ 9223372036854775807 := by omega
        rw [show upX q (decide (d ≤ r)) = q by simp [upX, c2, c3]]
        clear c2 c3
        go_enter Tryz.func135, Tryz.ntmps135
        go_wp2_with (first
      | (go_at_call 102; refine (dec_May _ _).mono ?_; rintro e w1 ⟨rfl, rfl⟩)
      | (go_at_call_of 151 (Value.int .i64 a); refine (dec_size a HA.out _).mono ?_; rw [HM.out]; rintro e w1 ⟨rfl, rfl⟩)
      | (go_at_call_of 151 (Value.int .i64 b); refine (dec_size b HB.out _).mono ?_; rw [HN.out]; rintro e w1 ⟨rfl, rfl⟩)
      | (go_at_call 152; refine (mul_scale m hi lo NA.out HHI.out HLO.out _).mono ?_; rintro e w1 ⟨rfl, rfl⟩)
      | (go_at_call 186; refine (div_words hi lo n q r C1.out HL.out NB.out HQ.out HR.out _).mono ?_; rintro e w1 ⟨rfl, hb⟩; obtain ⟨l1, l2, rfl⟩ := more_of_below hb; clear hb)
      | (go_at_call 153; rw [show (!lowX a == lowX b) = lw from hlw]; refine (dec_signed q Q1.out lw _).mono ?_; rintro e w1 ⟨rfl, rfl⟩))
        go_ret2
        exact ⟨rfl, (by repeat (first | with_reducible exact Below.refl _ _ | with_reducible assumption | with_reducible refine below_more' ?_ (by go_size) | with_reducible refine bel_alloc ?_ _ (by go_size) | with_reducible refine Below.drew ?_ | with_reducible refine Below.setCell ?_ (by go_size) _ | with_reducible refine below_drewN ?_ _))⟩
    · have c2i : ¬ (d : Int) ≤ r := by omega
      rw [show upX q (decide (d ≤ r)) = q by simp [upX, c2]]
      clear c2
      go_enter Tryz.func135, Tryz.ntmps135
      go_wp2_with (first
      | (go_at_call 102; refine (dec_May _ _).mono ?_; rintro e w1 ⟨rfl, rfl⟩)
      | (go_at_call_of 151 (Value.int .i64 a); refine (dec_size a HA.out _).mono ?_; rw [HM.out]; rintro e w1 ⟨rfl, rfl⟩)
      | (go_at_call_of 151 (Value.int .i64 b); refine (dec_size b HB.out _).mono ?_; rw [HN.out]; rintro e w1 ⟨rfl, rfl⟩)
      | (go_at_call 152; refine (mul_scale m hi lo NA.out HHI.out HLO.out _).mono ?_; rintro e w1 ⟨rfl, rfl⟩)
      | (go_at_call 186; refine (div_words hi lo n q r C1.out HL.out NB.out HQ.out HR.out _).mono ?_; rintro e w1 ⟨rfl, hb⟩; obtain ⟨l1, l2, rfl⟩ := more_of_below hb; clear hb)
      | (go_at_call 153; rw [show (!lowX a == lowX b) = lw from hlw]; refine (dec_signed q Q1.out lw _).mono ?_; rintro e w1 ⟨rfl, rfl⟩))
      go_ret2
      exact ⟨rfl, (by repeat (first | with_reducible exact Below.refl _ _ | with_reducible assumption | with_reducible refine below_more' ?_ (by go_size) | with_reducible refine bel_alloc ?_ _ (by go_size) | with_reducible refine Below.drew ?_ | with_reducible refine Below.setCell ?_ (by go_size) _ | with_reducible refine below_drewN ?_ _))⟩
end Go.Proofs.YtegbhdeaicgpkaaGreatDoor
