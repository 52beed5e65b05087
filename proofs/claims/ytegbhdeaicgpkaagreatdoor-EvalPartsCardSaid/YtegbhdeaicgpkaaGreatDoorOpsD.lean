/-
  dec.Mul and dec.Div: what each answers, for every number.
-/
import Derived.Test.YtegbhdeaicgpkaaGreatDoorOpsM
namespace Go.Proofs.YtegbhdeaicgpkaaGreatDoor
open Go Go.RowKit

theorem words_of (p : Nat) : p / 18446744073709551616 * 18446744073709551616 + p % 18446744073709551616 = p := by
  have := Nat.div_add_mod p 18446744073709551616
  omega
theorem signed_int (n : Nat) (x : Int) (hx : x = n) (h : n < 18446744073709551616) (low : Bool) (w : World) : Calls Tryz.prog 153 #[.int .u64 x, .bool low] w fun e w' => e = .returned (.tuple #[.int .i64 (signX n low).1, .int .i64 (signX n low).2]) ∧ w = w' := by
  subst hx
  exact dec_signed n h low w
/-- The division of two words, its answers by name. -/
theorem div_words (hi lo y q r : Nat) (h : hi < y) (hl : lo < 18446744073709551616) (hy : y < 18446744073709551616) (hq : (hi * 18446744073709551616 + lo) / y = q) (hr : (hi * 18446744073709551616 + lo) % y = r) (w : World) : Calls Tryz.prog 186 #[.int .u64 hi, .int .u64 lo, .int .u64 y] w fun e w' => e = .returned (.tuple #[.int .u64 q, .int .u64 r]) ∧ Below w.heap.size w w' := by
  have h1 := Div64 hi lo y h hl hy w
  rw [hq, hr] at h1
  exact h1
theorem div_scale (hi lo q r : Nat) (h : hi < 10000) (hl : lo < 18446744073709551616) (hq : (hi * 18446744073709551616 + lo) / 10000 = q) (hr : (hi * 18446744073709551616 + lo) % 10000 = r) (w : World) : Calls Tryz.prog 186 #[.int .u64 hi, .int .u64 lo, .int .u64 10000] w fun e w' => e = .returned (.tuple #[.int .u64 q, .int .u64 r]) ∧ Below w.heap.size w w' := by
  obtain ⟨y, hy⟩ : ∃ y : Nat, y = 10000 := ⟨_, rfl⟩
  rw [← hy] at h hq hr
  have h1 := div_words hi lo y q r h hl (by omega) hq hr w
  rw [show ((y : Nat) : Int) = 10000 by omega] at h1
  exact h1
set_option maxRecDepth 100000 in
set_option maxHeartbeats 1000000 in
theorem dec_Mul (a b : Int) (ha : Is64 a) (hb : Is64 b) (w : World) : Calls Tryz.prog 183 #[.int .i64 a, .int .i64 b] w fun e w' => e = .returned (.tuple #[.int .i64 (mulX a b).1, .int .i64 (mulX a b).2]) ∧ Below w.heap.size w w' := by
  by_cases h1 : a = minI
  · rw [show mulX a b = (0, 2) from if_pos (.inl h1)]
    clear ha hb
    go_enter Tryz.func183, Tryz.ntmps183
    go_wp2_with (go_at_call 102; refine (dec_May _ _).mono ?_; rintro e w1 ⟨rfl, rfl⟩)
    go_ret2
    exact ⟨rfl, (by repeat (first | with_reducible exact Below.refl _ _ | with_reducible assumption | with_reducible refine below_more' ?_ (by go_size) | with_reducible refine bel_alloc ?_ _ (by go_size) | with_reducible refine Below.drew ?_ | with_reducible refine Below.setCell ?_ (by go_size) _ | with_reducible refine below_drewN ?_ _))⟩
  by_cases h2 : b = minI
  · rw [show mulX a b = (0, 2) from if_pos (.inr h2)]
    have m1 : (a != minI) = true := by simp [h1]
    clear ha hb
    go_enter Tryz.func183, Tryz.ntmps183
    go_wp2_with (go_at_call 102; refine (dec_May _ _).mono ?_; rintro e w1 ⟨rfl, rfl⟩)
    go_ret2
    exact ⟨rfl, (by repeat (first | with_reducible exact Below.refl _ _ | with_reducible assumption | with_reducible refine below_more' ?_ (by go_size) | with_reducible refine bel_alloc ?_ _ (by go_size) | with_reducible refine Below.drew ?_ | with_reducible refine Below.setCell ?_ (by go_size) _ | with_reducible refine below_drewN ?_ _))⟩
  have na := natAbs_lt ha
  have nb := natAbs_lt hb
  have e : mulX a b = if 10000 ≤ a.natAbs * b.natAbs / 18446744073709551616 then (0, 2) else signX (upX (a.natAbs * b.natAbs / 10000) (decide (5000 ≤ a.natAbs * b.natAbs % 10000))) (lowX a != lowX b) := if_neg (fun h => h.elim h1 h2)
  have m1 : (a != minI) = true := by simp [h1]
  have m2 : (b != minI) = true := by simp [h2]
  obtain ⟨m, hm⟩ : ∃ m, a.natAbs = m := ⟨_, rfl⟩
  obtain ⟨n, hn⟩ : ∃ n, b.natAbs = n := ⟨_, rfl⟩
  rw [hm] at na e
  rw [hn] at nb e
  have hp := words_of (m * n)
  have hl : m * n % 18446744073709551616 < 18446744073709551616 := Nat.mod_lt _ (by decide)
  obtain ⟨hi, hhi⟩ : ∃ hi, m * n / 18446744073709551616 = hi := ⟨_, rfl⟩
  obtain ⟨lo, hlo⟩ : ∃ lo, m * n % 18446744073709551616 = lo := ⟨_, rfl⟩
  rw [hhi, hlo] at hp
  rw [hhi] at e
  rw [hlo] at hl
  rw [← hp] at e
  obtain ⟨lw, hlw⟩ : ∃ lw, (lowX a != lowX b) = lw := ⟨_, rfl⟩
  rw [hlw] at e
  have HM := Lib.hid hm
  have HN := Lib.hid hn
  have HHI := Lib.hid hhi
  have HLO := Lib.hid hlo
  have HA := Lib.hid ha
  have HB := Lib.hid hb
  have NA := Lib.hid (show m < 18446744073709551616 by omega)
  have NB := Lib.hid (show n < 18446744073709551616 by omega)
  have HL := Lib.hid hl
  clear hm hn hhi hlo ha hb na nb hl hp
  by_cases c1 : 10000 ≤ hi
  · rw [if_pos c1] at e
    rw [e]
    have c1i : (10000 : Int) ≤ hi := by omega
    clear c1 e h1 h2
    go_enter Tryz.func183, Tryz.ntmps183
    go_wp2_with (first
      | (go_at_call 102; refine (dec_May _ _).mono ?_; rintro e w1 ⟨rfl, rfl⟩)
      | (go_at_call_of 151 (Value.int .i64 a); refine (dec_size a HA.out _).mono ?_; rw [HM.out]; rintro e w1 ⟨rfl, rfl⟩)
      | (go_at_call_of 151 (Value.int .i64 b); refine (dec_size b HB.out _).mono ?_; rw [HN.out]; rintro e w1 ⟨rfl, rfl⟩)
      | (go_at_call 152; refine (Tryz.bits_Mul64 m n NA.out NB.out _).mono ?_; rw [HHI.out, HLO.out]; rintro e w1 ⟨rfl, rfl⟩))
    go_ret2
    exact ⟨rfl, (by repeat (first | with_reducible exact Below.refl _ _ | with_reducible assumption | with_reducible refine below_more' ?_ (by go_size) | with_reducible refine bel_alloc ?_ _ (by go_size) | with_reducible refine Below.drew ?_ | with_reducible refine Below.setCell ?_ (by go_size) _ | with_reducible refine below_drewN ?_ _))⟩
  · rw [if_neg c1] at e
    have hq1 : (hi * 18446744073709551616 + lo) / 10000 < 18446744073709551616 := by have := HL.out; omega
    obtain ⟨q, hq⟩ : ∃ q, (hi * 18446744073709551616 + lo) / 10000 = q := ⟨_, rfl⟩
    obtain ⟨r, hr⟩ : ∃ r, (hi * 18446744073709551616 + lo) % 10000 = r := ⟨_, rfl⟩
    rw [hq, hr] at e
    rw [hq] at hq1
    rw [e]
    have HQ := Lib.hid hq
    have HR := Lib.hid hr
    have C1 := Lib.hid (show hi < 10000 by omega)
    have Q1 := Lib.hid hq1
    have c1i : ¬ (10000 : Int) ≤ hi := by omega
    clear c1 e hq hr hq1 h1 h2
    by_cases c2 : 5000 ≤ r
    · have c2i : (5000 : Int) ≤ r := by omega
      by_cases c3 : q ≤ 9223372036854775807
      · have c3i : (q : Int) ≤ 9223372036854775807 := by omega
        rw [show upX q (decide (5000 ≤ r)) = q + 1 by simp [upX, c2, c3]]
        obtain ⟨q2, hq2⟩ : ∃ q2, q + 1 = q2 := ⟨_, rfl⟩
        have w2 : IntKind.u64.wrap ((q : Int) + 1) = (q2 : Int) := by rw [IntKind.wrap_u64]; omega
        have Q2 := Lib.hid (show q2 < 18446744073709551616 by omega)
        rw [hq2]
        clear c2 c3 hq2
        go_enter Tryz.func183, Tryz.ntmps183
        go_wp2_with (first
          | (go_at_call 102; refine (dec_May _ _).mono ?_; rintro e w1 ⟨rfl, rfl⟩)
          | (go_at_call_of 151 (Value.int .i64 a); refine (dec_size a HA.out _).mono ?_; rw [HM.out]; rintro e w1 ⟨rfl, rfl⟩)
          | (go_at_call_of 151 (Value.int .i64 b); refine (dec_size b HB.out _).mono ?_; rw [HN.out]; rintro e w1 ⟨rfl, rfl⟩)
          | (go_at_call 152; refine (Tryz.bits_Mul64 m n NA.out NB.out _).mono ?_; rw [HHI.out, HLO.out]; rintro e w1 ⟨rfl, rfl⟩)
          | (go_at_call 186; refine (div_scale hi lo q r C1.out HL.out HQ.out HR.out _).mono ?_; rintro e w1 ⟨rfl, hb⟩; obtain ⟨l1, l2, rfl⟩ := more_of_below hb; clear hb)
          | (go_at_call 153; rw [show (!lowX a == lowX b) = lw from hlw]; refine (dec_signed q2 Q2.out lw _).mono ?_; rintro e w1 ⟨rfl, rfl⟩))
        go_ret2
        exact ⟨rfl, (by repeat (first | with_reducible exact Below.refl _ _ | with_reducible assumption | with_reducible refine below_more' ?_ (by go_size) | with_reducible refine bel_alloc ?_ _ (by go_size) | with_reducible refine Below.drew ?_ | with_reducible refine Below.setCell ?_ (by go_size) _ | with_reducible refine below_drewN ?_ _))⟩
      · have c3i : ¬ (q : Int) ≤ 9223372036854775807 := by omega
        rw [show upX q (decide (5000 ≤ r)) = q by simp [upX, c2, c3]]
        clear c2 c3
        go_enter Tryz.func183, Tryz.ntmps183
        go_wp2_with (first
          | (go_at_call 102; refine (dec_May _ _).mono ?_; rintro e w1 ⟨rfl, rfl⟩)
          | (go_at_call_of 151 (Value.int .i64 a); refine (dec_size a HA.out _).mono ?_; rw [HM.out]; rintro e w1 ⟨rfl, rfl⟩)
          | (go_at_call_of 151 (Value.int .i64 b); refine (dec_size b HB.out _).mono ?_; rw [HN.out]; rintro e w1 ⟨rfl, rfl⟩)
          | (go_at_call 152; refine (Tryz.bits_Mul64 m n NA.out NB.out _).mono ?_; rw [HHI.out, HLO.out]; rintro e w1 ⟨rfl, rfl⟩)
          | (go_at_call 186; refine (div_scale hi lo q r C1.out HL.out HQ.out HR.out _).mono ?_; rintro e w1 ⟨rfl, hb⟩; obtain ⟨l1, l2, rfl⟩ := more_of_below hb; clear hb)
          | (go_at_call 153; rw [show (!lowX a == lowX b) = lw from hlw]; refine (dec_signed q Q1.out lw _).mono ?_; rintro e w1 ⟨rfl, rfl⟩))
        go_ret2
        exact ⟨rfl, (by repeat (first | with_reducible exact Below.refl _ _ | with_reducible assumption | with_reducible refine below_more' ?_ (by go_size) | with_reducible refine bel_alloc ?_ _ (by go_size) | with_reducible refine Below.drew ?_ | with_reducible refine Below.setCell ?_ (by go_size) _ | with_reducible refine below_drewN ?_ _))⟩
    · have c2i : ¬ (5000 : Int) ≤ r := by omega
      rw [show upX q (decide (5000 ≤ r)) = q by simp [upX, c2]]
      clear c2
      go_enter Tryz.func183, Tryz.ntmps183
      go_wp2_with (first
        | (go_at_call 102; refine (dec_May _ _).mono ?_; rintro e w1 ⟨rfl, rfl⟩)
        | (go_at_call_of 151 (Value.int .i64 a); refine (dec_size a HA.out _).mono ?_; rw [HM.out]; rintro e w1 ⟨rfl, rfl⟩)
        | (go_at_call_of 151 (Value.int .i64 b); refine (dec_size b HB.out _).mono ?_; rw [HN.out]; rintro e w1 ⟨rfl, rfl⟩)
        | (go_at_call 152; refine (Tryz.bits_Mul64 m n NA.out NB.out _).mono ?_; rw [HHI.out, HLO.out]; rintro e w1 ⟨rfl, rfl⟩)
        | (go_at_call 186; refine (div_scale hi lo q r C1.out HL.out HQ.out HR.out _).mono ?_; rintro e w1 ⟨rfl, hb⟩; obtain ⟨l1, l2, rfl⟩ := more_of_below hb; clear hb)
        | (go_at_call 153; rw [show (!lowX a == lowX b) = lw from hlw]; refine (dec_signed q Q1.out lw _).mono ?_; rintro e w1 ⟨rfl, rfl⟩))
      go_ret2
      exact ⟨rfl, (by repeat (first | with_reducible exact Below.refl _ _ | with_reducible assumption | with_reducible refine below_more' ?_ (by go_size) | with_reducible refine bel_alloc ?_ _ (by go_size) | with_reducible refine Below.drew ?_ | with_reducible refine Below.setCell ?_ (by go_size) _ | with_reducible refine below_drewN ?_ _))⟩
end Go.Proofs.YtegbhdeaicgpkaaGreatDoor
