/-
  The document's answer: Takes of layer 11.
-/
import Derived.Test.YtpcihefhagipmaaGreatDoorRefB
namespace Go.Proofs.YtpcihefhagipmaaGreatDoor
open Go Go.RowKit

/-- what the document's table takes -/
def tabRef (s : ByteArray) (n : Nat) (xs : List Bool) : Bool :=
  if decide (0 < (want08 s).2) then rtakes (want08 s).1 (want08 s).2 n xs else
  if decide (0 < (want09 s).2.1) then rtakes (want09 s).1 (want09 s).2.1 n xs else
  if decide (0 < (want10 s).2.2) then takesAgg s xs else rtakes (want11 s).1 (want11 s).2 n xs

set_option maxRecDepth 100000 in
theorem ref11_Takes (s : ByteArray) (A : Option Addr) (n c : Nat) (xs : List Bool) (w : World) (B : Nat) (hr : Reads w B 1 A n (xs.map Value.bool)) (hm : n ≤ 9223372036854775807) :
    Calls Tryz.prog 14 #[.agg #[], .string s, .slice A n c] w fun e w' => e = .returned (.bool (tabRef s n xs)) ∧ Below w.heap.size w w' := by
  have hk8 : Keeps w (w.alloc (.cells #[] 44)) := (by repeat (first | with_reducible exact keeps_refl _ | with_reducible assumption | with_reducible refine keeps_alloc ?_ _ | with_reducible refine keeps_more ?_ _ _ | with_reducible refine keeps_drew ?_ | with_reducible refine keeps_drewN ?_ _))
  have hr2 := fun w' (h : Keeps w w') => hr.keeps h
  have h8 := fun w => ref08_Known s w
  have h9 := fun w => ref09_Known s w
  have h10 := fun w => ref10_Known s w
  have hW := fun w => ref11_wants s w
  unfold tabRef
  generalize decide (0 < (want08 s).2) = k8 at h8 ⊢
  generalize decide (0 < (want09 s).2.1) = k9 at h9 ⊢
  generalize decide (0 < (want10 s).2.2) = k10 at h10 ⊢
  have H8 := Lib.hid h8
  have H9 := Lib.hid h9
  have H10 := Lib.hid h10
  have HR := Lib.hid hr
  clear h8 h9 h10 hr2 hk8
  cases k8
  · cases k9
    · cases k10
      · generalize (want11 s).1 = x at hW ⊢
        generalize (want11 s).2 = y at hW ⊢
        have HW := Lib.hid hW
        have hlen : xs.length = n := by have := hr.1; simpa using this
        have HL := Lib.hid hlen
        have HC : RowKit.Hid (∀ k, k < n → ∃ b off, A = some ⟨b, off, none⟩ ∧ b < w.heap.size ∧ w.cell? ⟨b, off + k, none⟩ = some (.bool (xs.getD k false))) := Lib.hid fun k hk => by
          obtain ⟨b, off, e, _, hc⟩ := hr.2 (by omega)
          have h1 := hc k (.bool (xs.getD k false)) (by simp [List.getD, List.getElem?_eq_getElem (show k < xs.length by omega)])
          exact ⟨b, off, e, cell_lt h1, h1⟩
        clear hr hlen hW HR
        go_enter Tryz.func14, Tryz.ntmps14
        go_wp2_with (first | (go_at_call 23; refine (H8.out _).mono ?_; rintro e w1 ⟨rfl, rfl⟩) | (go_at_call 25; refine (H9.out _).mono ?_; rintro e w1 ⟨rfl, rfl⟩) | (go_at_call 27; refine (H10.out _).mono ?_; rintro e w1 ⟨rfl, rfl⟩))
        go_loop [7] (fun t => ∃ k : Nat, k ≤ n ∧ t = .int .i64 k ∧ NoTrue xs k) (fun t => n - (intOf t).toNat)
        case atStart => exact ⟨0, Nat.zero_le _, rfl, fun j hj => by omega⟩
        case round =>
          obtain ⟨k, hk, rfl, hno⟩ := hrel
          by_cases hlt : k < n
          · obtain ⟨b, off, rfl, hbl, hcell⟩ := HC.out k hlt
            cases hv : xs.getD k false with
            | true =>
              rw [hv] at hcell
              have hh := Lib.hid (hasTrue_of hv)
              clear hv
              go_wp2
              go_ret
              exact ⟨by simp [rtakes_true hh.out], (by repeat (first | with_reducible exact Below.refl _ _ | with_reducible assumption | with_reducible refine below_more' ?_ (by go_size) | with_reducible refine bel_alloc ?_ _ (by go_size) | with_reducible refine Below.drew ?_ | with_reducible refine Below.setCell ?_ (by go_size) _ | with_reducible refine below_drewN ?_ _))⟩
            | false =>
              rw [hv] at hcell
              have hh := noTrue_step hno hv
              clear hv hno
              go_wp2
              go_round
              case rel => exact ⟨k + 1, by omega, by go_num, hh⟩
              case measure => simp [intOf]; omega
          · have hh := Lib.hid (noTrue_end hno (HL.out.trans (by omega)))
            clear hno
            by_cases hx : x ≤ n
            · by_cases hy : n ≤ y
              · go_wp2_with (first | (go_at_call 29; refine (HW.out _).mono ?_; rintro e w1 ⟨rfl, rfl⟩))
                go_ret
                exact ⟨by rw [rtakes_yes hh.out (by omega) (by omega)]; first | rfl | (simp; omega), (by repeat (first | with_reducible exact Below.refl _ _ | with_reducible assumption | with_reducible refine below_more' ?_ (by go_size) | with_reducible refine bel_alloc ?_ _ (by go_size) | with_reducible refine Below.drew ?_ | with_reducible refine Below.setCell ?_ (by go_size) _ | with_reducible refine below_drewN ?_ _))⟩
              · go_wp2_with (first | (go_at_call 29; refine (HW.out _).mono ?_; rintro e w1 ⟨rfl, rfl⟩))
                go_ret
                exact ⟨by rw [rtakes_high (by omega)]; first | rfl | (simp; omega), (by repeat (first | with_reducible exact Below.refl _ _ | with_reducible assumption | with_reducible refine below_more' ?_ (by go_size) | with_reducible refine bel_alloc ?_ _ (by go_size) | with_reducible refine Below.drew ?_ | with_reducible refine Below.setCell ?_ (by go_size) _ | with_reducible refine below_drewN ?_ _))⟩
            · go_wp2_with (first | (go_at_call 29; refine (HW.out _).mono ?_; rintro e w1 ⟨rfl, rfl⟩))
              go_ret
              exact ⟨by rw [rtakes_low (by omega)]; first | rfl | (simp; omega), (by repeat (first | with_reducible exact Below.refl _ _ | with_reducible assumption | with_reducible refine below_more' ?_ (by go_size) | with_reducible refine bel_alloc ?_ _ (by go_size) | with_reducible refine Below.drew ?_ | with_reducible refine Below.setCell ?_ (by go_size) _ | with_reducible refine below_drewN ?_ _))⟩
      · go_enter Tryz.func14, Tryz.ntmps14
        go_wp2_with (first | (go_at_call 23; refine (H8.out _).mono ?_; rintro e w1 ⟨rfl, rfl⟩) | (go_at_call 25; refine (H9.out _).mono ?_; rintro e w1 ⟨rfl, rfl⟩) | (go_at_call 27; refine (H10.out _).mono ?_; rintro e w1 ⟨rfl, rfl⟩) | (go_at_call 28; refine (ref10_Takes s A n c xs _ B (HR.out.keeps (by repeat (first | with_reducible exact keeps_refl _ | with_reducible assumption | with_reducible refine keeps_alloc ?_ _ | with_reducible refine keeps_more ?_ _ _ | with_reducible refine keeps_drew ?_ | with_reducible refine keeps_drewN ?_ _))) hm).mono ?_; rintro e w1 ⟨rfl, rfl⟩))
        go_ret
        exact ⟨rfl, (by repeat (first | with_reducible exact Below.refl _ _ | with_reducible assumption | with_reducible refine below_more' ?_ (by go_size) | with_reducible refine bel_alloc ?_ _ (by go_size) | with_reducible refine Below.drew ?_ | with_reducible refine Below.setCell ?_ (by go_size) _ | with_reducible refine below_drewN ?_ _))⟩
    · go_enter Tryz.func14, Tryz.ntmps14
      go_wp2_with (first | (go_at_call 23; refine (H8.out _).mono ?_; rintro e w1 ⟨rfl, rfl⟩) | (go_at_call 25; refine (H9.out _).mono ?_; rintro e w1 ⟨rfl, rfl⟩) | (go_at_call 26; refine (ref09_Takes s A n c xs _ B (HR.out.keeps (by repeat (first | with_reducible exact keeps_refl _ | with_reducible assumption | with_reducible refine keeps_alloc ?_ _ | with_reducible refine keeps_more ?_ _ _ | with_reducible refine keeps_drew ?_ | with_reducible refine keeps_drewN ?_ _))) hm).mono ?_; rintro e w1 ⟨rfl, rfl⟩))
      go_ret
      exact ⟨rfl, (by repeat (first | with_reducible exact Below.refl _ _ | with_reducible assumption | with_reducible refine below_more' ?_ (by go_size) | with_reducible refine bel_alloc ?_ _ (by go_size) | with_reducible refine Below.drew ?_ | with_reducible refine Below.setCell ?_ (by go_size) _ | with_reducible refine below_drewN ?_ _))⟩
  · go_enter Tryz.func14, Tryz.ntmps14
    go_wp2_with (first | (go_at_call 23; refine (H8.out _).mono ?_; rintro e w1 ⟨rfl, rfl⟩) | (go_at_call 24; refine (ref08_Takes s A n c xs _ B (HR.out.keeps (by repeat (first | with_reducible exact keeps_refl _ | with_reducible assumption | with_reducible refine keeps_alloc ?_ _ | with_reducible refine keeps_more ?_ _ _ | with_reducible refine keeps_drew ?_ | with_reducible refine keeps_drewN ?_ _))) hm).mono ?_; rintro e w1 ⟨rfl, rfl⟩))
    go_ret
    exact ⟨rfl, (by repeat (first | with_reducible exact Below.refl _ _ | with_reducible assumption | with_reducible refine below_more' ?_ (by go_size) | with_reducible refine bel_alloc ?_ _ (by go_size) | with_reducible refine Below.drew ?_ | with_reducible refine Below.setCell ?_ (by go_size) _ | with_reducible refine below_drewN ?_ _))⟩
end Go.Proofs.YtpcihefhagipmaaGreatDoor
