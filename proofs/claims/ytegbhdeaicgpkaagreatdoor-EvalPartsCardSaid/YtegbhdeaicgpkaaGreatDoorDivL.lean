/-
  Plain laws of the division of two words by one (Knuth's way, two digits of 32 bits).
-/
import Derived.Lib.ItoaNum
namespace Go.Proofs.YtegbhdeaicgpkaaGreatDoor.Div64
theorem split (v q : Nat) : q * v = q * (v / 4294967296) * 4294967296 + q * (v % 4294967296) := by
  have h := Nat.div_add_mod v 4294967296
  calc q * v = q * (4294967296 * (v / 4294967296) + v % 4294967296) := by rw [h]
    _ = q * (v / 4294967296) * 4294967296 + q * (v % 4294967296) := by rw [Nat.mul_add, Nat.mul_comm 4294967296, Nat.mul_assoc]
theorem le_of {v u d q r : Nat} (hv : 0 < v) (hi : q * (v / 4294967296) + r = u) (h2 : q * (v % 4294967296) ≤ 4294967296 * r + d) : q ≤ (u * 4294967296 + d) / v := by
  rw [Nat.le_div_iff_mul_le hv, split v q]
  omega
theorem lt_of {v u d q r : Nat} (hv : 0 < v) (hi : q * (v / 4294967296) + r = u) (h2 : 4294967296 * r + d < q * (v % 4294967296)) : (u * 4294967296 + d) / v < q := by
  rw [Nat.div_lt_iff_lt_mul hv, split v q]
  omega
theorem digit_lt {v u d : Nat} (hu : u < v) (hd : d < 4294967296) : (u * 4294967296 + d) / v < 4294967296 := by
  rw [Nat.div_lt_iff_lt_mul (by omega)]
  have : (u + 1) * 4294967296 ≤ v * 4294967296 := Nat.mul_le_mul_right _ hu
  omega
/-- The first guess is not too small, and at most two too great. -/
theorem guess {v u d : Nat} (h0 : 9223372036854775808 ≤ v) (hu : u < v) (hd : d < 4294967296) : (u * 4294967296 + d) / v ≤ u / (v / 4294967296) ∧ u / (v / 4294967296) ≤ 4294967297 := by
  have hn : 2147483648 ≤ v / 4294967296 := by omega
  constructor
  · rw [Nat.le_div_iff_mul_le (by omega)]
    have h1 : (u * 4294967296 + d) / v * v ≤ u * 4294967296 + d := Nat.div_mul_le_self _ _
    rw [split] at h1
    generalize (u * 4294967296 + d) / v * (v / 4294967296) = z at h1 ⊢
    omega
  · have h1 : u < (4294967297 + 1) * (v / 4294967296) := by omega
    have := (Nat.div_lt_iff_lt_mul (show 0 < v / 4294967296 by omega)).2 h1
    omega
/-- A guess that is one less, and still leaves much: it is right. -/
theorem at_break {v u d q r : Nat} (hv : 0 < v) (hi : q * (v / 4294967296) + r = u) (hr : 4294967296 ≤ r) (hq : q ≤ 4294967296) : q ≤ (u * 4294967296 + d) / v := by
  refine le_of hv hi ?_
  have h1 : q * (v % 4294967296) ≤ 4294967296 * 4294967296 := Nat.mul_le_mul hq (by omega)
  omega
/-- What the loop keeps: the guess q with what it leaves. -/
structure Inv (v u d q r : Nat) : Prop where
  inv : q * (v / 4294967296) + r = u
  low : r < 4294967296
  top : q ≤ 4294967297
  ge : (u * 4294967296 + d) / v ≤ q
theorem Inv.start {v u d : Nat} (h0 : 9223372036854775808 ≤ v) (hv : v < 18446744073709551616) (hu : u < v) (hd : d < 4294967296) : Inv v u d (u / (v / 4294967296)) (u - u / (v / 4294967296) * (v / 4294967296)) := by
  obtain ⟨h1, h2⟩ := guess h0 hu hd
  have h3 := Nat.div_add_mod u (v / 4294967296)
  have h4 := Nat.mod_lt u (show 0 < v / 4294967296 by omega)
  rw [Nat.mul_comm] at h3
  exact ⟨by omega, by omega, h2, h1⟩
/-- The products and sums at the loop's test fit into a word. -/
theorem Inv.fits {v u d q r : Nat} (h : Inv v u d q r) (hd : d < 4294967296) : q * (v % 4294967296) < 18446744073709551616 ∧ 4294967296 * r + d < 18446744073709551616 := by
  have h1 : q * (v % 4294967296) ≤ 4294967297 * 4294967295 := Nat.mul_le_mul h.top (by omega)
  have h2 := h.low
  exact ⟨by omega, by omega⟩
/-- The test fails: the guess is right. -/
theorem Inv.done {v u d q r : Nat} (h : Inv v u d q r) (hv : 0 < v) (h2 : q * (v % 4294967296) ≤ 4294967296 * r + d) : q = (u * 4294967296 + d) / v :=
  Nat.le_antisymm (le_of hv h.inv h2) h.ge
/-- The test holds: the guess is too great. -/
theorem Inv.great {v u d q r : Nat} (h : Inv v u d q r) (hu : u < v) (hd : d < 4294967296) (h2 : 4294967296 ≤ q ∨ 4294967296 * r + d < q * (v % 4294967296)) : (u * 4294967296 + d) / v + 1 ≤ q := by
  rcases h2 with h2 | h2
  · have := digit_lt hu hd; omega
  · exact lt_of (by omega) h.inv h2
theorem one_less {q a r u : Nat} (hq : 1 ≤ q) (h : q * a + r = u) : (q - 1) * a + (r + a) = u := by
  obtain ⟨k, rfl⟩ : ∃ k, q = k + 1 := ⟨q - 1, by omega⟩
  rw [Nat.succ_mul] at h
  rw [Nat.add_sub_cancel]
  omega
theorem Inv.round {v u d q r : Nat} (h : Inv v u d q r) (hg : (u * 4294967296 + d) / v + 1 ≤ q) (hr : r + v / 4294967296 < 4294967296) : Inv v u d (q - 1) (r + v / 4294967296) :=
  ⟨one_less (Nat.le_trans (Nat.le_add_left 1 _) hg) h.inv, hr, Nat.le_trans (Nat.sub_le _ _) h.top, Nat.le_sub_one_of_lt hg⟩
theorem Inv.brk {v u d q r : Nat} (h : Inv v u d q r) (hv : 0 < v) (hg : (u * 4294967296 + d) / v + 1 ≤ q) (hr : 4294967296 ≤ r + v / 4294967296) : q - 1 = (u * 4294967296 + d) / v :=
  Nat.le_antisymm (at_break hv (one_less (Nat.le_trans (Nat.le_add_left 1 _) hg) h.inv) hr (by have := h.top; omega)) (Nat.le_sub_one_of_lt hg)
theorem left_aux {A v q r : Nat} (h1 : q * v + r = A) (h2 : r < v) (hv2 : v < 18446744073709551616) : (A + (18446744073709551616 - q * v % 18446744073709551616)) % 18446744073709551616 = r := by
  subst h1
  have h3 := Nat.div_add_mod (q * v) 18446744073709551616
  have h4 := Nat.mod_lt (q * v) (show 0 < 18446744073709551616 by decide)
  have e : q * v + r + (18446744073709551616 - q * v % 18446744073709551616) = r + 18446744073709551616 * (q * v / 18446744073709551616 + 1) := by omega
  rw [e, Nat.add_mul_mod_self_left, Nat.mod_eq_of_lt (by omega)]
/-- What is left behind a digit, reckoned in words that wrap. -/
theorem left {v u d q : Nat} (hv : 0 < v) (hv2 : v < 18446744073709551616) (hq : q = (u * 4294967296 + d) / v) : (u * 4294967296 + d + (18446744073709551616 - q * v % 18446744073709551616)) % 18446744073709551616 = (u * 4294967296 + d) % v :=
  left_aux (by rw [hq, Nat.mul_comm]; exact Nat.div_add_mod _ _) (Nat.mod_lt _ hv) hv2
theorem both_aux {N A v d0 q1 r1 q0 r0 : Nat} (hv : 0 < v) (hN : N = A * 4294967296 + d0) (h1 : v * q1 + r1 = A) (h2 : v * q0 + r0 = r1 * 4294967296 + d0) (h3 : r0 < v) : N / v = q1 * 4294967296 + q0 ∧ N % v = r0 := by
  have e : N = r0 + v * (q1 * 4294967296 + q0) := by
    rw [Nat.mul_add, ← Nat.mul_assoc]
    omega
  rw [e]
  exact ⟨by rw [Nat.add_mul_div_left _ _ hv, Nat.div_eq_of_lt h3, Nat.zero_add], by rw [Nat.add_mul_mod_self_left, Nat.mod_eq_of_lt h3]⟩
/-- The two digits together. -/
theorem both {N v u d0 d1 : Nat} (hv : 0 < v) (hN : N = u * 18446744073709551616 + d1 * 4294967296 + d0) :
    N / v = (u * 4294967296 + d1) / v * 4294967296 + ((u * 4294967296 + d1) % v * 4294967296 + d0) / v ∧ N % v = ((u * 4294967296 + d1) % v * 4294967296 + d0) % v :=
  both_aux hv (by rw [hN]; omega) (Nat.div_add_mod _ _) (Nat.div_add_mod _ _) (Nat.mod_lt _ hv)
/-- Both sides shifted. -/
theorem shifted (hi lo s : Nat) (hs : s ≤ 64) : (hi * 2 ^ s + lo / 2 ^ (64 - s)) * 18446744073709551616 + lo * 2 ^ s % 18446744073709551616 = (hi * 18446744073709551616 + lo) * 2 ^ s := by
  have h1 := Nat.div_add_mod (lo * 2 ^ s) 18446744073709551616
  have h2 : (18446744073709551616 : Nat) = 2 ^ (64 - s) * 2 ^ s := by rw [← Nat.pow_add, Nat.sub_add_cancel hs]
  have h3 : lo * 2 ^ s / 18446744073709551616 = lo / 2 ^ (64 - s) := by
    rw [h2, Nat.mul_div_mul_right _ _ (Nat.two_pow_pos s)]
  rw [h3] at h1
  generalize lo * 2 ^ s % 18446744073709551616 = m at *
  rw [Nat.add_mul, Nat.add_mul, Nat.mul_right_comm hi]
  omega
theorem shifted_lt {hi lo y s : Nat} (hs : s ≤ 64) (hl : lo < 18446744073709551616) (h : hi < y) : hi * 2 ^ s + lo / 2 ^ (64 - s) < y * 2 ^ s := by
  have h2 : (18446744073709551616 : Nat) = 2 ^ s * 2 ^ (64 - s) := by rw [← Nat.pow_add, Nat.add_sub_cancel' hs]
  have h1 : lo / 2 ^ (64 - s) < 2 ^ s := (Nat.div_lt_iff_lt_mul (Nat.two_pow_pos _)).2 (by rw [← h2]; exact hl)
  have h3 : (hi + 1) * 2 ^ s ≤ y * 2 ^ s := Nat.mul_le_mul_right _ h
  rw [Nat.succ_mul] at h3
  omega
/-- The divisor, shifted till its top bit stands. -/
theorem norm {y : Nat} (h0 : 0 < y) (h1 : y < 18446744073709551616) : Lib.bitLen y ≤ 64 ∧ 1 ≤ Lib.bitLen y ∧ 9223372036854775808 ≤ y * 2 ^ (64 - Lib.bitLen y) ∧ y * 2 ^ (64 - Lib.bitLen y) < 18446744073709551616 := by
  obtain ⟨a, b, c⟩ := Lib.bitLenAux_bounds 64 y h1 (by omega)
  have hb : Lib.bitLen y ≤ 64 := Lib.bitLen_le y 64 (Nat.le_refl _) h1
  change 1 ≤ Lib.bitLen y at a
  change 2 ^ (Lib.bitLen y - 1) ≤ y at b
  change y < 2 ^ Lib.bitLen y at c
  generalize Lib.bitLen y = n at *
  refine ⟨hb, a, ?_, ?_⟩
  · have := Nat.mul_le_mul_right (2 ^ (64 - n)) b
    rw [← Nat.pow_add, show n - 1 + (64 - n) = 63 by omega] at this
    exact this
  · have := (Nat.mul_lt_mul_right (Nat.two_pow_pos (64 - n))).2 c
    rw [← Nat.pow_add, show n + (64 - n) = 64 by omega] at this
    exact this
/-- A sum of two parts without a common bit is their 'or'. -/
theorem or_sum {s a b : Nat} (h : b < 2 ^ s) : (a * 2 ^ s) ||| b = a * 2 ^ s + b := by
  rw [Nat.mul_comm, Nat.two_pow_add_eq_or_of_lt h]
end Go.Proofs.YtegbhdeaicgpkaaGreatDoor.Div64
