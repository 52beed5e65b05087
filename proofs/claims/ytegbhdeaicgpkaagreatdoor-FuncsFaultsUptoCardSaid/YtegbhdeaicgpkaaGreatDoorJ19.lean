/-
  Parts of a proof: DivL, DivF.
-/
import Derived.Lib.ItoaNum
import Derived.Shelf.Bits.Mul64
set_option linter.all false
namespace Go.Proofs.YtegbhdeaicgpkaaGreatDoor.Div64
theorem split (v q : Nat) : q * v = q * (v / 4294967296) * 4294967296 + q * (v % 4294967296) := by
  have h := Nat.div_add_mod v 4294967296
  calc q * v = q * (4294967296 * (v / 4294967296) + v % 4294967296) := by rw [h]
    _ = q * (v / 4294967296) * 4294967296 + q * (v % 4294967296) := by rw [Nat.mul_add, Nat.mul_comm 4294967296, Nat.mul_assoc]
theorem le_of {v u d q r : Nat} (hv : 0 < v) (hi : q * (v / 4294967296) + r = u) (h2 : q * (v % 4294967296) ≤ 4294967296 * r + d) : q ≤ (u * 4294967296 + d) / v := by
  rw [Nat.le_div_iff_mul_le hv, split v q]
  omega
theorem lt_of {v u d q r : Nat} (hv : 0 < v) (hi : q * (v / 4294967296) + r = u) (h2 : 4294967296 * r + d < q * (v % 4294967296)) : (u * 4294967296 + d) / v < q := by
  rw [Nat.div_lt_iff_lt_mul hv, split v q]
  omega
theorem digit_lt {v u d : Nat} (hu : u < v) (hd : d < 4294967296) : (u * 4294967296 + d) / v < 4294967296 := by
  rw [Nat.div_lt_iff_lt_mul (by omega)]
  have : (u + 1) * 4294967296 ≤ v * 4294967296 := Nat.mul_le_mul_right _ hu
  omega
theorem guess {v u d : Nat} (h0 : 9223372036854775808 ≤ v) (hu : u < v) (hd : d < 4294967296) : (u * 4294967296 + d) / v ≤ u / (v / 4294967296) ∧ u / (v / 4294967296) ≤ 4294967297 := by
  have hn : 2147483648 ≤ v / 4294967296 := by omega
  constructor
  · rw [Nat.le_div_iff_mul_le (by omega)]
    have h1 : (u * 4294967296 + d) / v * v ≤ u * 4294967296 + d := Nat.div_mul_le_self _ _
    rw [split] at h1
    generalize (u * 4294967296 + d) / v * (v / 4294967296) = z at h1 ⊢
    omega
  · have h1 : u < (4294967297 + 1) * (v / 4294967296) := by omega
    have := (Nat.div_lt_iff_lt_mul (show 0 < v / 4294967296 by omega)).2 h1
    omega
theorem at_break {v u d q r : Nat} (hv : 0 < v) (hi : q * (v / 4294967296) + r = u) (hr : 4294967296 ≤ r) (hq : q ≤ 4294967296) : q ≤ (u * 4294967296 + d) / v := by
  refine le_of hv hi ?_
  have h1 : q * (v % 4294967296) ≤ 4294967296 * 4294967296 := Nat.mul_le_mul hq (by omega)
  omega
structure Inv (v u d q r : Nat) : Prop where
  inv : q * (v / 4294967296) + r = u
  low : r < 4294967296
  top : q ≤ 4294967297
  ge : (u * 4294967296 + d) / v ≤ q
theorem Inv.start {v u d : Nat} (h0 : 9223372036854775808 ≤ v) (hv : v < 18446744073709551616) (hu : u < v) (hd : d < 4294967296) : Inv v u d (u / (v / 4294967296)) (u - u / (v / 4294967296) * (v / 4294967296)) := by
  obtain ⟨h1, h2⟩ := guess h0 hu hd
  have h3 := Nat.div_add_mod u (v / 4294967296)
  have h4 := Nat.mod_lt u (show 0 < v / 4294967296 by omega)
  rw [Nat.mul_comm] at h3
  exact ⟨by omega, by omega, h2, h1⟩
theorem Inv.fits {v u d q r : Nat} (h : Inv v u d q r) (hd : d < 4294967296) : q * (v % 4294967296) < 18446744073709551616 ∧ 4294967296 * r + d < 18446744073709551616 := by
  have h1 : q * (v % 4294967296) ≤ 4294967297 * 4294967295 := Nat.mul_le_mul h.top (by omega)
  have h2 := h.low
  exact ⟨by omega, by omega⟩
theorem Inv.done {v u d q r : Nat} (h : Inv v u d q r) (hv : 0 < v) (h2 : q * (v % 4294967296) ≤ 4294967296 * r + d) : q = (u * 4294967296 + d) / v :=
  Nat.le_antisymm (le_of hv h.inv h2) h.ge
theorem Inv.great {v u d q r : Nat} (h : Inv v u d q r) (hu : u < v) (hd : d < 4294967296) (h2 : 4294967296 ≤ q ∨ 4294967296 * r + d < q * (v % 4294967296)) : (u * 4294967296 + d) / v + 1 ≤ q := by
  rcases h2 with h2 | h2
  · have := digit_lt hu hd; omega
  · exact lt_of (by omega) h.inv h2
theorem one_less {q a r u : Nat} (hq : 1 ≤ q) (h : q * a + r = u) : (q - 1) * a + (r + a) = u := by
  obtain ⟨k, rfl⟩ : ∃ k, q = k + 1 := ⟨q - 1, by omega⟩
  rw [Nat.succ_mul] at h
  rw [Nat.add_sub_cancel]
  omega
theorem Inv.round {v u d q r : Nat} (h : Inv v u d q r) (hg : (u * 4294967296 + d) / v + 1 ≤ q) (hr : r + v / 4294967296 < 4294967296) : Inv v u d (q - 1) (r + v / 4294967296) :=
  ⟨one_less (Nat.le_trans (Nat.le_add_left 1 _) hg) h.inv, hr, Nat.le_trans (Nat.sub_le _ _) h.top, Nat.le_sub_one_of_lt hg⟩
theorem Inv.brk {v u d q r : Nat} (h : Inv v u d q r) (hv : 0 < v) (hg : (u * 4294967296 + d) / v + 1 ≤ q) (hr : 4294967296 ≤ r + v / 4294967296) : q - 1 = (u * 4294967296 + d) / v :=
  Nat.le_antisymm (at_break hv (one_less (Nat.le_trans (Nat.le_add_left 1 _) hg) h.inv) hr (by have := h.top; omega)) (Nat.le_sub_one_of_lt hg)
theorem left_aux {A v q r : Nat} (h1 : q * v + r = A) (h2 : r < v) (hv2 : v < 18446744073709551616) : (A + (18446744073709551616 - q * v % 18446744073709551616)) % 18446744073709551616 = r := by
  subst h1
  have h3 := Nat.div_add_mod (q * v) 18446744073709551616
  have h4 := Nat.mod_lt (q * v) (show 0 < 18446744073709551616 by decide)
  have e : q * v + r + (18446744073709551616 - q * v % 18446744073709551616) = r + 18446744073709551616 * (q * v / 18446744073709551616 + 1) := by omega
  rw [e, Nat.add_mul_mod_self_left, Nat.mod_eq_of_lt (by omega)]
theorem left {v u d q : Nat} (hv : 0 < v) (hv2 : v < 18446744073709551616) (hq : q = (u * 4294967296 + d) / v) : (u * 4294967296 + d + (18446744073709551616 - q * v % 18446744073709551616)) % 18446744073709551616 = (u * 4294967296 + d) % v :=
  left_aux (by rw [hq, Nat.mul_comm]; exact Nat.div_add_mod _ _) (Nat.mod_lt _ hv) hv2
theorem both_aux {N A v d0 q1 r1 q0 r0 : Nat} (hv : 0 < v) (hN : N = A * 4294967296 + d0) (h1 : v * q1 + r1 = A) (h2 : v * q0 + r0 = r1 * 4294967296 + d0) (h3 : r0 < v) : N / v = q1 * 4294967296 + q0 ∧ N % v = r0 := by
  have e : N = r0 + v * (q1 * 4294967296 + q0) := by
    rw [Nat.mul_add, ← Nat.mul_assoc]
    omega
  rw [e]
  exact ⟨by rw [Nat.add_mul_div_left _ _ hv, Nat.div_eq_of_lt h3, Nat.zero_add], by rw [Nat.add_mul_mod_self_left, Nat.mod_eq_of_lt h3]⟩
theorem both {N v u d0 d1 : Nat} (hv : 0 < v) (hN : N = u * 18446744073709551616 + d1 * 4294967296 + d0) :
    N / v = (u * 4294967296 + d1) / v * 4294967296 + ((u * 4294967296 + d1) % v * 4294967296 + d0) / v ∧ N % v = ((u * 4294967296 + d1) % v * 4294967296 + d0) % v :=
  both_aux hv (by rw [hN]; omega) (Nat.div_add_mod _ _) (Nat.div_add_mod _ _) (Nat.mod_lt _ hv)
theorem shifted (hi lo s : Nat) (hs : s ≤ 64) : (hi * 2 ^ s + lo / 2 ^ (64 - s)) * 18446744073709551616 + lo * 2 ^ s % 18446744073709551616 = (hi * 18446744073709551616 + lo) * 2 ^ s := by
  have h1 := Nat.div_add_mod (lo * 2 ^ s) 18446744073709551616
  have h2 : (18446744073709551616 : Nat) = 2 ^ (64 - s) * 2 ^ s := by rw [← Nat.pow_add, Nat.sub_add_cancel hs]
  have h3 : lo * 2 ^ s / 18446744073709551616 = lo / 2 ^ (64 - s) := by
    rw [h2, Nat.mul_div_mul_right _ _ (Nat.two_pow_pos s)]
  rw [h3] at h1
  generalize lo * 2 ^ s % 18446744073709551616 = m at *
  rw [Nat.add_mul, Nat.add_mul, Nat.mul_right_comm hi]
  omega
theorem shifted_lt {hi lo y s : Nat} (hs : s ≤ 64) (hl : lo < 18446744073709551616) (h : hi < y) : hi * 2 ^ s + lo / 2 ^ (64 - s) < y * 2 ^ s := by
  have h2 : (18446744073709551616 : Nat) = 2 ^ s * 2 ^ (64 - s) := by rw [← Nat.pow_add, Nat.add_sub_cancel' hs]
  have h1 : lo / 2 ^ (64 - s) < 2 ^ s := (Nat.div_lt_iff_lt_mul (Nat.two_pow_pos _)).2 (by rw [← h2]; exact hl)
  have h3 : (hi + 1) * 2 ^ s ≤ y * 2 ^ s := Nat.mul_le_mul_right _ h
  rw [Nat.succ_mul] at h3
  omega
theorem norm {y : Nat} (h0 : 0 < y) (h1 : y < 18446744073709551616) : Lib.bitLen y ≤ 64 ∧ 1 ≤ Lib.bitLen y ∧ 9223372036854775808 ≤ y * 2 ^ (64 - Lib.bitLen y) ∧ y * 2 ^ (64 - Lib.bitLen y) < 18446744073709551616 := by
  obtain ⟨a, b, c⟩ := Lib.bitLenAux_bounds 64 y h1 (by omega)
  have hb : Lib.bitLen y ≤ 64 := Lib.bitLen_le y 64 (Nat.le_refl _) h1
  change 1 ≤ Lib.bitLen y at a
  change 2 ^ (Lib.bitLen y - 1) ≤ y at b
  change y < 2 ^ Lib.bitLen y at c
  generalize Lib.bitLen y = n at *
  refine ⟨hb, a, ?_, ?_⟩
  · have := Nat.mul_le_mul_right (2 ^ (64 - n)) b
    rw [← Nat.pow_add, show n - 1 + (64 - n) = 63 by omega] at this
    exact this
  · have := (Nat.mul_lt_mul_right (Nat.two_pow_pos (64 - n))).2 c
    rw [← Nat.pow_add, show n + (64 - n) = 64 by omega] at this
    exact this
theorem or_sum {s a b : Nat} (h : b < 2 ^ s) : (a * 2 ^ s) ||| b = a * 2 ^ s + b := by
  rw [Nat.mul_comm, Nat.two_pow_add_eq_or_of_lt h]
end Go.Proofs.YtegbhdeaicgpkaaGreatDoor.Div64
namespace Go.Proofs.YtegbhdeaicgpkaaGreatDoor.Div64
open Go
structure Facts (hi lo y s t v H D u z d1 d0 a b : Nat) : Prop where
  k1 : IntKind.u64.wrap (64 - ((Lib.bitLen y : Nat) : Int)) = (s : Int)
  k2 : min s 64 = s
  k3 : IntKind.u64.wrap ((y : Int) * 2 ^ s) = (v : Int)
  k4 : IntKind.u64.wrap (64 - (s : Int)) = (t : Int)
  k5 : min t 64 = t
  k6 : IntKind.u64.wrap ((hi : Int) * 2 ^ s) = (H : Int)
  k7 : (lo : Int) / 2 ^ t = (D : Int)
  k8 : bits .or .u64 (H : Int) (D : Int) = (u : Int)
  k9 : IntKind.u64.wrap ((lo : Int) * 2 ^ s) = (z : Int)
  k10 : (z : Int) / 4294967296 = (d1 : Int)
  k11 : bits .and .u64 (z : Int) 4294967295 = (d0 : Int)
  k12 : (v : Int) / 4294967296 = (a : Int)
  k13 : bits .and .u64 (v : Int) 4294967295 = (b : Int)
  v0 : 9223372036854775808 ≤ v
  v1 : v < 18446744073709551616
  uv : u < v
  h1 : d1 < 4294967296
  h0 : d0 < 4294967296
  ha : a = v / 4294967296
  hb : b = v % 4294967296
  quo : (hi * 18446744073709551616 + lo) / y = (u * 4294967296 + d1) / v * 4294967296 + ((u * 4294967296 + d1) % v * 4294967296 + d0) / v
  rem : (hi * 18446744073709551616 + lo) % y = ((u * 4294967296 + d1) % v * 4294967296 + d0) % v / 2 ^ s
theorem facts (hi lo y : Nat) (h : hi < y) (hl : lo < 18446744073709551616) (hy : y < 18446744073709551616) : ∃ s t v H D u z d1 d0 a b : Nat, Facts hi lo y s t v H D u z d1 d0 a b := by
  obtain ⟨n1, n2, n3, n4⟩ := norm (show 0 < y by omega) hy
  obtain ⟨s, hs⟩ : ∃ s, s = 64 - Lib.bitLen y := ⟨_, rfl⟩
  rw [← hs] at n3 n4
  have hs64 : s ≤ 64 := by omega
  have hp : 0 < 2 ^ s := Nat.two_pow_pos s
  have hlt := shifted_lt hs64 hl h
  have hsh := shifted hi lo s hs64
  have hz : lo * 2 ^ s % 18446744073709551616 < 18446744073709551616 := Nat.mod_lt _ (by decide)
  have hH : hi * 2 ^ s < 18446744073709551616 := by
    have := Nat.mul_le_mul_right (2 ^ s) (Nat.le_of_lt h)
    omega
  have hD : lo / 2 ^ (64 - s) < 2 ^ s := (Nat.div_lt_iff_lt_mul (Nat.two_pow_pos _)).2 (by rw [← Nat.pow_add, Nat.add_sub_cancel' hs64]; exact hl)
  have hD' : lo / 2 ^ (64 - s) < 18446744073709551616 := Nat.lt_of_le_of_lt (Nat.div_le_self _ _) hl
  have hN := both (N := (hi * 18446744073709551616 + lo) * 2 ^ s) (v := y * 2 ^ s) (u := hi * 2 ^ s + lo / 2 ^ (64 - s)) (d1 := lo * 2 ^ s % 18446744073709551616 / 4294967296) (d0 := lo * 2 ^ s % 18446744073709551616 % 4294967296) (by omega) (by rw [← hsh]; omega)
  rw [Nat.mul_div_mul_right _ _ hp, Nat.mul_mod_mul_right] at hN
  refine ⟨s, 64 - s, y * 2 ^ s, hi * 2 ^ s, lo / 2 ^ (64 - s), hi * 2 ^ s + lo / 2 ^ (64 - s), lo * 2 ^ s % 18446744073709551616, lo * 2 ^ s % 18446744073709551616 / 4294967296, lo * 2 ^ s % 18446744073709551616 % 4294967296, y * 2 ^ s / 4294967296, y * 2 ^ s % 4294967296, ?_⟩
  have c2 : ((2 : Int) ^ s) = ((2 ^ s : Nat) : Int) := by simp
  have c3 : ((2 : Int) ^ (64 - s)) = ((2 ^ (64 - s) : Nat) : Int) := by simp
  exact {
    k1 := by rw [IntKind.wrap_u64]; omega
    k2 := by omega
    k3 := by rw [c2, ← Int.natCast_mul, Mul64.wrapN _ n4]
    k4 := by rw [IntKind.wrap_u64]; omega
    k5 := by omega
    k6 := by rw [c2, ← Int.natCast_mul, Mul64.wrapN _ hH]
    k7 := by rw [c3, ← Int.natCast_ediv]
    k8 := by rw [bits_or_u64_nat _ _ hH hD', or_sum hD]
    k9 := by rw [c2, ← Int.natCast_mul, Mul64.wrapM]
    k10 := Mul64.divN _
    k11 := Mul64.maskN _ hz
    k12 := Mul64.divN _
    k13 := Mul64.maskN _ n4
    v0 := n3
    v1 := n4
    uv := hlt
    h1 := by omega
    h0 := Nat.mod_lt _ (by decide)
    ha := rfl
    hb := rfl
    quo := hN.1
    rem := by rw [← hN.2, Nat.mul_div_cancel _ hp] }
theorem start_words {v u a : Nat} (v0 : 9223372036854775808 ≤ v) (v1 : v < 18446744073709551616) (uv : u < v) (ha : a = v / 4294967296) {d : Nat} (hd : d < 4294967296) :
    ∃ q r : Nat, IntKind.u64.wrap ((u : Int) / (a : Int)) = (q : Int) ∧ IntKind.u64.wrap ((q : Int) * (a : Int)) = ((u - r : Nat) : Int) ∧ IntKind.u64.wrap ((u : Int) - ((u - r : Nat) : Int)) = (r : Int) ∧ Inv v u d q r := by
  subst ha
  have hI := Inv.start v0 v1 uv hd
  have hq : u / (v / 4294967296) < 18446744073709551616 := Nat.lt_of_le_of_lt (Nat.div_le_self _ _) (by omega)
  have hm : u / (v / 4294967296) * (v / 4294967296) ≤ u := Nat.div_mul_le_self _ _
  refine ⟨u / (v / 4294967296), u - u / (v / 4294967296) * (v / 4294967296), ?_, ?_, ?_, hI⟩
  · rw [← Int.natCast_ediv, Mul64.wrapN _ hq]
  · rw [← Int.natCast_mul, Nat.sub_sub_self hm, Mul64.wrapN _ (by omega)]
  · rw [Nat.sub_sub_self hm, ← Int.ofNat_sub hm, Mul64.wrapN _ (by omega)]
theorem test_words {v u d q r b : Nat} (h : Inv v u d q r) (hb : b = v % 4294967296) (hd : d < 4294967296) :
    ∃ m x e : Nat, IntKind.u64.wrap ((q : Int) * (b : Int)) = (m : Int) ∧ IntKind.u64.wrap (4294967296 * (r : Int)) = (x : Int) ∧ IntKind.u64.wrap ((x : Int) + (d : Int)) = (e : Int) ∧ m = q * (v % 4294967296) ∧ e = 4294967296 * r + d := by
  subst hb
  obtain ⟨f1, f2⟩ := h.fits hd
  refine ⟨q * (v % 4294967296), 4294967296 * r, 4294967296 * r + d, ?_, ?_, ?_, rfl, rfl⟩
  · rw [← Int.natCast_mul, Mul64.wrapN _ f1]
  · rw [show (4294967296 * (r : Int)) = ((4294967296 * r : Nat) : Int) by omega, Mul64.wrapN _ (by omega)]
  · rw [← Int.natCast_add, Mul64.wrapN _ f2]
theorem less_words {v u d q r a : Nat} (h : Inv v u d q r) (ha : a = v / 4294967296) (v1 : v < 18446744073709551616) (hq : 1 ≤ q) :
    ∃ q' r' : Nat, IntKind.u64.wrap ((q : Int) - 1) = (q' : Int) ∧ IntKind.u64.wrap ((r : Int) + (a : Int)) = (r' : Int) ∧ q' = q - 1 ∧ r' = r + v / 4294967296 := by
  subst ha
  have h1 := h.top
  have h2 := h.low
  refine ⟨q - 1, r + v / 4294967296, ?_, ?_, rfl, rfl⟩
  · rw [IntKind.wrap_u64]; omega
  · rw [← Int.natCast_add, Mul64.wrapN _ (by omega)]
theorem left_words {v u d q : Nat} (hv : 0 < v) (v1 : v < 18446744073709551616) (hq : q = (u * 4294967296 + d) / v) :
    ∃ x e m : Nat, IntKind.u64.wrap ((u : Int) * 4294967296) = (x : Int) ∧ IntKind.u64.wrap ((x : Int) + (d : Int)) = (e : Int) ∧ IntKind.u64.wrap ((q : Int) * (v : Int)) = (m : Int) ∧ IntKind.u64.wrap ((e : Int) - (m : Int)) = (((u * 4294967296 + d) % v : Nat) : Int) := by
  have h := left hv v1 hq
  refine ⟨u * 4294967296 % 18446744073709551616, (u * 4294967296 + d) % 18446744073709551616, q * v % 18446744073709551616, ?_, ?_, ?_, ?_⟩
  · rw [show ((u : Int) * 4294967296) = ((u * 4294967296 : Nat) : Int) by omega, Mul64.wrapM]
  · rw [← Int.natCast_add, Mul64.wrapM, Nat.add_mod (u * 4294967296) d, Nat.mod_add_mod, ← Nat.add_mod]
  · rw [← Int.natCast_mul, Mul64.wrapM]
  · rw [IntKind.wrap_u64, ← h]
    have h4 := Nat.mod_lt (q * v) (show 0 < 18446744073709551616 by decide)
    omega
theorem last_words {q p : Nat} (hq : q < 4294967296) (hp : p < 4294967296) : ∃ x : Nat, IntKind.u64.wrap ((q : Int) * 4294967296) = (x : Int) ∧ IntKind.u64.wrap ((x : Int) + (p : Int)) = ((q * 4294967296 + p : Nat) : Int) := by
  refine ⟨q * 4294967296, ?_, ?_⟩
  · rw [show ((q : Int) * 4294967296) = ((q * 4294967296 : Nat) : Int) by omega, Mul64.wrapN _ (by omega)]
  · rw [← Int.natCast_add, Mul64.wrapN _ (by omega)]
end Go.Proofs.YtegbhdeaicgpkaaGreatDoor.Div64
