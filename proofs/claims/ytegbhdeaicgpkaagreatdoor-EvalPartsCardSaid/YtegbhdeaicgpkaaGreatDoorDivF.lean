/-
  The words that bits.Div64 reckons ahead of its two loops.
-/
import Derived.Test.YtegbhdeaicgpkaaGreatDoorDivL
import Derived.Shelf.Bits.Mul64
namespace Go.Proofs.YtegbhdeaicgpkaaGreatDoor.Div64
open Go

structure Facts (hi lo y s t v H D u z d1 d0 a b : Nat) : Prop where
  k1 : IntKind.u64.wrap (64 - ((Lib.bitLen y : Nat) : Int)) = (s : Int)
  k2 : min s 64 = s
  k3 : IntKind.u64.wrap ((y : Int) * 2 ^ s) = (v : Int)
  k4 : IntKind.u64.wrap (64 - (s : Int)) = (t : Int)
  k5 : min t 64 = t
  k6 : IntKind.u64.wrap ((hi : Int) * 2 ^ s) = (H : Int)
  k7 : (lo : Int) / 2 ^ t = (D : Int)
  k8 : bits .or .u64 (H : Int) (D : Int) = (u : Int)
  k9 : IntKind.u64.wrap ((lo : Int) * 2 ^ s) = (z : Int)
  k10 : (z : Int) / 4294967296 = (d1 : Int)
  k11 : bits .and .u64 (z : Int) 4294967295 = (d0 : Int)
  k12 : (v : Int) / 4294967296 = (a : Int)
  k13 : bits .and .u64 (v : Int) 4294967295 = (b : Int)
  v0 : 9223372036854775808 ≤ v
  v1 : v < 18446744073709551616
  uv : u < v
  h1 : d1 < 4294967296
  h0 : d0 < 4294967296
  ha : a = v / 4294967296
  hb : b = v % 4294967296
  quo : (hi * 18446744073709551616 + lo) / y = (u * 4294967296 + d1) / v * 4294967296 + ((u * 4294967296 + d1) % v * 4294967296 + d0) / v
  rem : (hi * 18446744073709551616 + lo) % y = ((u * 4294967296 + d1) % v * 4294967296 + d0) % v / 2 ^ s
theorem facts (hi lo y : Nat) (h : hi < y) (hl : lo < 18446744073709551616) (hy : y < 18446744073709551616) : ∃ s t v H D u z d1 d0 a b : Nat, Facts hi lo y s t v H D u z d1 d0 a b := by
  obtain ⟨n1, n2, n3, n4⟩ := norm (show 0 < y by omega) hy
  obtain ⟨s, hs⟩ : ∃ s, s = 64 - Lib.bitLen y := ⟨_, rfl⟩
  rw [← hs] at n3 n4
  have hs64 : s ≤ 64 := by omega
  have hp : 0 < 2 ^ s := Nat.two_pow_pos s
  have hlt := shifted_lt hs64 hl h
  have hsh := shifted hi lo s hs64
  have hz : lo * 2 ^ s % 18446744073709551616 < 18446744073709551616 := Nat.mod_lt _ (by decide)
  have hH : hi * 2 ^ s < 18446744073709551616 := by
    have := Nat.mul_le_mul_right (2 ^ s) (Nat.le_of_lt h)
    omega
  have hD : lo / 2 ^ (64 - s) < 2 ^ s := (Nat.div_lt_iff_lt_mul (Nat.two_pow_pos _)).2 (by rw [← Nat.pow_add, Nat.add_sub_cancel' hs64]; exact hl)
  have hD' : lo / 2 ^ (64 - s) < 18446744073709551616 := Nat.lt_of_le_of_lt (Nat.div_le_self _ _) hl
  have hN := both (N := (hi * 18446744073709551616 + lo) * 2 ^ s) (v := y * 2 ^ s) (u := hi * 2 ^ s + lo / 2 ^ (64 - s)) (d1 := lo * 2 ^ s % 18446744073709551616 / 4294967296) (d0 := lo * 2 ^ s % 18446744073709551616 % 4294967296) (by omega) (by rw [← hsh]; omega)
  rw [Nat.mul_div_mul_right _ _ hp, Nat.mul_mod_mul_right] at hN
  refine ⟨s, 64 - s, y * 2 ^ s, hi * 2 ^ s, lo / 2 ^ (64 - s), hi * 2 ^ s + lo / 2 ^ (64 - s), lo * 2 ^ s % 18446744073709551616, lo * 2 ^ s % 18446744073709551616 / 4294967296, lo * 2 ^ s % 18446744073709551616 % 4294967296, y * 2 ^ s / 4294967296, y * 2 ^ s % 4294967296, ?_⟩
  have c2 : ((2 : Int) ^ s) = ((2 ^ s : Nat) : Int) := by simp
  have c3 : ((2 : Int) ^ (64 - s)) = ((2 ^ (64 - s) : Nat) : Int) := by simp
  exact {
    k1 := by rw [IntKind.wrap_u64]; omega
    k2 := by omega
    k3 := by rw [c2, ← Int.natCast_mul, Mul64.wrapN _ n4]
    k4 := by rw [IntKind.wrap_u64]; omega
    k5 := by omega
    k6 := by rw [c2, ← Int.natCast_mul, Mul64.wrapN _ hH]
    k7 := by rw [c3, ← Int.natCast_ediv]
    k8 := by rw [bits_or_u64_nat _ _ hH hD', or_sum hD]
    k9 := by rw [c2, ← Int.natCast_mul, Mul64.wrapM]
    k10 := Mul64.divN _
    k11 := Mul64.maskN _ hz
    k12 := Mul64.divN _
    k13 := Mul64.maskN _ n4
    v0 := n3
    v1 := n4
    uv := hlt
    h1 := by omega
    h0 := Nat.mod_lt _ (by decide)
    ha := rfl
    hb := rfl
    quo := hN.1
    rem := by rw [← hN.2, Nat.mul_div_cancel _ hp] }
/-- The first guess, and what it leaves, as the words are reckoned. -/
theorem start_words {v u a : Nat} (v0 : 9223372036854775808 ≤ v) (v1 : v < 18446744073709551616) (uv : u < v) (ha : a = v / 4294967296) {d : Nat} (hd : d < 4294967296) :
    ∃ q r : Nat, IntKind.u64.wrap ((u : Int) / (a : Int)) = (q : Int) ∧ IntKind.u64.wrap ((q : Int) * (a : Int)) = ((u - r : Nat) : Int) ∧ IntKind.u64.wrap ((u : Int) - ((u - r : Nat) : Int)) = (r : Int) ∧ Inv v u d q r := by
  subst ha
  have hI := Inv.start v0 v1 uv hd
  have hq : u / (v / 4294967296) < 18446744073709551616 := Nat.lt_of_le_of_lt (Nat.div_le_self _ _) (by omega)
  have hm : u / (v / 4294967296) * (v / 4294967296) ≤ u := Nat.div_mul_le_self _ _
  refine ⟨u / (v / 4294967296), u - u / (v / 4294967296) * (v / 4294967296), ?_, ?_, ?_, hI⟩
  · rw [← Int.natCast_ediv, Mul64.wrapN _ hq]
  · rw [← Int.natCast_mul, Nat.sub_sub_self hm, Mul64.wrapN _ (by omega)]
  · rw [Nat.sub_sub_self hm, ← Int.ofNat_sub hm, Mul64.wrapN _ (by omega)]
theorem test_words {v u d q r b : Nat} (h : Inv v u d q r) (hb : b = v % 4294967296) (hd : d < 4294967296) :
    ∃ m x e : Nat, IntKind.u64.wrap ((q : Int) * (b : Int)) = (m : Int) ∧ IntKind.u64.wrap (4294967296 * (r : Int)) = (x : Int) ∧ IntKind.u64.wrap ((x : Int) + (d : Int)) = (e : Int) ∧ m = q * (v % 4294967296) ∧ e = 4294967296 * r + d := by
  subst hb
  obtain ⟨f1, f2⟩ := h.fits hd
  refine ⟨q * (v % 4294967296), 4294967296 * r, 4294967296 * r + d, ?_, ?_, ?_, rfl, rfl⟩
  · rw [← Int.natCast_mul, Mul64.wrapN _ f1]
  · rw [show (4294967296 * (r : Int)) = ((4294967296 * r : Nat) : Int) by omega, Mul64.wrapN _ (by omega)]
  · rw [← Int.natCast_add, Mul64.wrapN _ f2]
theorem less_words {v u d q r a : Nat} (h : Inv v u d q r) (ha : a = v / 4294967296) (v1 : v < 18446744073709551616) (hq : 1 ≤ q) :
    ∃ q' r' : Nat, IntKind.u64.wrap ((q : Int) - 1) = (q' : Int) ∧ IntKind.u64.wrap ((r : Int) + (a : Int)) = (r' : Int) ∧ q' = q - 1 ∧ r' = r + v / 4294967296 := by
  subst ha
  have h1 := h.top
  have h2 := h.low
  refine ⟨q - 1, r + v / 4294967296, ?_, ?_, rfl, rfl⟩
  · rw [IntKind.wrap_u64]; omega
  · rw [← Int.natCast_add, Mul64.wrapN _ (by omega)]
theorem left_words {v u d q : Nat} (hv : 0 < v) (v1 : v < 18446744073709551616) (hq : q = (u * 4294967296 + d) / v) :
    ∃ x e m : Nat, IntKind.u64.wrap ((u : Int) * 4294967296) = (x : Int) ∧ IntKind.u64.wrap ((x : Int) + (d : Int)) = (e : Int) ∧ IntKind.u64.wrap ((q : Int) * (v : Int)) = (m : Int) ∧ IntKind.u64.wrap ((e : Int) - (m : Int)) = (((u * 4294967296 + d) % v : Nat) : Int) := by
  have h := left hv v1 hq
  refine ⟨u * 4294967296 % 18446744073709551616, (u * 4294967296 + d) % 18446744073709551616, q * v % 18446744073709551616, ?_, ?_, ?_, ?_⟩
  · rw [show ((u : Int) * 4294967296) = ((u * 4294967296 : Nat) : Int) by omega, Mul64.wrapM]
  · rw [← Int.natCast_add, Mul64.wrapM, Nat.add_mod (u * 4294967296) d, Nat.mod_add_mod, ← Nat.add_mod]
  · rw [← Int.natCast_mul, Mul64.wrapM]
  · rw [IntKind.wrap_u64, ← h]
    have h4 := Nat.mod_lt (q * v) (show 0 < 18446744073709551616 by decide)
    omega
theorem last_words {q p : Nat} (hq : q < 4294967296) (hp : p < 4294967296) : ∃ x : Nat, IntKind.u64.wrap ((q : Int) * 4294967296) = (x : Int) ∧ IntKind.u64.wrap ((x : Int) + (p : Int)) = ((q * 4294967296 + p : Nat) : Int) := by
  refine ⟨q * 4294967296, ?_, ?_⟩
  · rw [show ((q : Int) * 4294967296) = ((q * 4294967296 : Nat) : Int) by omega, Mul64.wrapN _ (by omega)]
  · rw [← Int.natCast_add, Mul64.wrapN _ (by omega)]
end Go.Proofs.YtegbhdeaicgpkaaGreatDoor.Div64
