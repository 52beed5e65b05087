/-
  The document's answers: Takes of layers 8 and 9.
-/
import Derived.Test.YtpcihefhagipmaaGreatDoorRefT
namespace Go.Proofs.YtpcihefhagipmaaGreatDoor
open Go Go.RowKit

/-- what a layer of single arguments takes, as the document says it -/
def rtakes (x y : Int) (n : Nat) (xs : List Bool) : Bool := !hasTrue xs && between x y n
theorem rtakes_true {x y : Int} {n : Nat} {xs : List Bool} (h : hasTrue xs = true) : rtakes x y n xs = false := by simp [rtakes, h]
theorem rtakes_low {x y : Int} {n : Nat} {xs : List Bool} (h : ¬ x ≤ n) : rtakes x y n xs = false := by simp [rtakes, between, h]
theorem rtakes_high {x y : Int} {n : Nat} {xs : List Bool} (h : ¬ (n : Int) ≤ y) : rtakes x y n xs = false := by simp [rtakes, between, h]
theorem rtakes_yes {x y : Int} {n : Nat} {xs : List Bool} (h : hasTrue xs = false) (hx : x ≤ n) (hy : (n : Int) ≤ y) : rtakes x y n xs = true := by simp [rtakes, between, h, hx, hy]

set_option maxRecDepth 100000 in
theorem ref08_Takes (s : ByteArray) (A : Option Addr) (n c : Nat) (xs : List Bool) (w : World) (B : Nat) (hr : Reads w B 1 A n (xs.map Value.bool)) (hm : n ≤ 9223372036854775807) :
    Calls Tryz.prog 24 #[.string s, .slice A n c] w fun e w' => e = .returned (.bool (rtakes (want08 s).1 (want08 s).2 n xs)) ∧ w' = w := by
  have hlen : xs.length = n := by have := hr.1; simpa using this
  have HL := Lib.hid hlen
  have HC : RowKit.Hid (∀ k, k < n → ∃ b off, A = some ⟨b, off, none⟩ ∧ w.cell? ⟨b, off + k, none⟩ = some (.bool (xs.getD k false))) := Lib.hid fun k hk => by
    obtain ⟨b, off, e, _, hc⟩ := hr.2 (by omega)
    exact ⟨b, off, e, hc k _ (by simp [List.getD, List.getElem?_eq_getElem (show k < xs.length by omega)])⟩
  clear hr hlen
  have hW := fun w => ref08_Wants s w
  generalize (want08 s).1 = x at hW ⊢
  generalize (want08 s).2 = y at hW ⊢
  have HW := Lib.hid hW
  clear hW
  go_enter Tryz.func24, Tryz.ntmps24
  go_wp2_with (first | (go_at_call 40; refine (HW.out _).mono ?_; rintro e w1 ⟨rfl, rfl⟩))
  go_loop [7] (fun t => ∃ k : Nat, k ≤ n ∧ t = .int .i64 k ∧ NoTrue xs k) (fun t => n - (intOf t).toNat)
  case atStart => exact ⟨0, Nat.zero_le _, rfl, fun j hj => by omega⟩
  case round =>
    obtain ⟨k, hk, rfl, hno⟩ := hrel
    by_cases hlt : k < n
    · obtain ⟨b, off, rfl, hcell⟩ := HC.out k hlt
      cases hv : xs.getD k false with
      | true =>
        rw [hv] at hcell
        have hh := Lib.hid (hasTrue_of hv)
        clear hv
        go_wp2
        go_ret
        exact ⟨by rw [rtakes_true hh.out]; rfl, rfl⟩
      | false =>
        rw [hv] at hcell
        have hh := noTrue_step hno hv
        clear hv hno
        go_wp2
        go_round
        case rel => exact ⟨k + 1, by omega, by go_num, hh⟩
        case measure => simp [intOf]; omega
    · have hh := Lib.hid (noTrue_end hno (HL.out.trans (by omega)))
      clear hno
      by_cases hx : x ≤ n
      · by_cases hy : n ≤ y
        · go_wp2
          go_ret
          exact ⟨by rw [rtakes_yes hh.out (by omega) (by omega)]; rfl, rfl⟩
        · go_wp2
          go_ret
          exact ⟨by rw [rtakes_high (by omega)]; rfl, rfl⟩
      · go_wp2
        go_ret
        exact ⟨by rw [rtakes_low (by omega)]; rfl, rfl⟩

set_option maxRecDepth 100000 in
theorem ref09_Takes (s : ByteArray) (A : Option Addr) (n c : Nat) (xs : List Bool) (w : World) (B : Nat) (hr : Reads w B 1 A n (xs.map Value.bool)) (hm : n ≤ 9223372036854775807) :
    Calls Tryz.prog 26 #[.string s, .slice A n c] w fun e w' => e = .returned (.bool (rtakes (want09 s).1 (want09 s).2.1 n xs)) ∧ w' = w := by
  have hlen : xs.length = n := by have := hr.1; simpa using this
  have HL := Lib.hid hlen
  have HC : RowKit.Hid (∀ k, k < n → ∃ b off, A = some ⟨b, off, none⟩ ∧ w.cell? ⟨b, off + k, none⟩ = some (.bool (xs.getD k false))) := Lib.hid fun k hk => by
    obtain ⟨b, off, e, _, hc⟩ := hr.2 (by omega)
    exact ⟨b, off, e, hc k _ (by simp [List.getD, List.getElem?_eq_getElem (show k < xs.length by omega)])⟩
  clear hr hlen
  have hW := fun w => ref09_Wants s w
  generalize (want09 s).1 = x at hW ⊢
  generalize (want09 s).2.1 = y at hW ⊢
  have HW := Lib.hid hW
  clear hW
  go_enter Tryz.func26, Tryz.ntmps26
  go_wp2_with (first | (go_at_call 41; refine (HW.out _).mono ?_; rintro e w1 ⟨rfl, rfl⟩))
  go_loop [8] (fun t => ∃ k : Nat, k ≤ n ∧ t = .int .i64 k ∧ NoTrue xs k) (fun t => n - (intOf t).toNat)
  case atStart => exact ⟨0, Nat.zero_le _, rfl, fun j hj => by omega⟩
  case round =>
    obtain ⟨k, hk, rfl, hno⟩ := hrel
    by_cases hlt : k < n
    · obtain ⟨b, off, rfl, hcell⟩ := HC.out k hlt
      cases hv : xs.getD k false with
      | true =>
        rw [hv] at hcell
        have hh := Lib.hid (hasTrue_of hv)
        clear hv
        go_wp2
        go_ret
        exact ⟨by rw [rtakes_true hh.out]; rfl, rfl⟩
      | false =>
        rw [hv] at hcell
        have hh := noTrue_step hno hv
        clear hv hno
        go_wp2
        go_round
        case rel => exact ⟨k + 1, by omega, by go_num, hh⟩
        case measure => simp [intOf]; omega
    · have hh := Lib.hid (noTrue_end hno (HL.out.trans (by omega)))
      clear hno
      by_cases hx : x ≤ n
      · by_cases hy : n ≤ y
        · go_wp2
          go_ret
          exact ⟨by rw [rtakes_yes hh.out (by omega) (by omega)]; rfl, rfl⟩
        · go_wp2
          go_ret
          exact ⟨by rw [rtakes_high (by omega)]; rfl, rfl⟩
      · go_wp2
        go_ret
        exact ⟨by rw [rtakes_low (by omega)]; rfl, rfl⟩
end Go.Proofs.YtpcihefhagipmaaGreatDoor
