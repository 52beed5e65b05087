/-
  The document's answers: the table of layer 11.
-/
import Derived.Test.YtpcihefhagipmaaGreatDoorRefA
namespace Go.Proofs.YtpcihefhagipmaaGreatDoor
open Go Go.RowKit

theorem ref11_Known (s : ByteArray) (w : World) : Calls Tryz.prog 16 #[.agg #[], .string s] w fun e w' => e = .returned (.bool (decide (0 < (want11 s).2) || (decide (0 < (want08 s).2) || (decide (0 < (want09 s).2.1) || decide (0 < (want10 s).2.2))))) ∧ Below w.heap.size w w' := by
  have hW := fun w => ref11_wants s w
  have h8 := fun w => ref08_Known s w
  have h9 := fun w => ref09_Known s w
  have h10 := fun w => ref10_Known s w
  generalize decide (0 < (want08 s).2) = k8 at h8 ⊢
  generalize decide (0 < (want09 s).2.1) = k9 at h9 ⊢
  generalize decide (0 < (want10 s).2.2) = k10 at h10 ⊢
  generalize (want11 s).1 = x at hW ⊢
  generalize (want11 s).2 = y at hW ⊢
  have HW := Lib.hid hW
  have H8 := Lib.hid h8
  have H9 := Lib.hid h9
  have H10 := Lib.hid h10
  clear hW h8 h9 h10
  by_cases hy : 0 < y
  · go_enter Tryz.func16, Tryz.ntmps16
    go_wp2_with (first | (go_at_call 29; refine (HW.out _).mono ?_; rintro e w1 ⟨rfl, rfl⟩))
    go_ret
    exact ⟨by simp [hy], (by repeat (first | with_reducible exact Below.refl _ _ | with_reducible assumption | with_reducible refine below_more' ?_ (by go_size) | with_reducible refine bel_alloc ?_ _ (by go_size) | with_reducible refine Below.drew ?_ | with_reducible refine Below.setCell ?_ (by go_size) _ | with_reducible refine below_drewN ?_ _))⟩
  · have hd : decide (0 < y) = false := by simpa using hy
    cases k8
    · cases k9
      · go_enter Tryz.func16, Tryz.ntmps16
        go_wp2_with (first | (go_at_call 29; refine (HW.out _).mono ?_; rintro e w1 ⟨rfl, rfl⟩) | (go_at_call 23; refine (H8.out _).mono ?_; rintro e w1 ⟨rfl, rfl⟩) | (go_at_call 25; refine (H9.out _).mono ?_; rintro e w1 ⟨rfl, rfl⟩) | (go_at_call 27; refine (H10.out _).mono ?_; rintro e w1 ⟨rfl, rfl⟩))
        go_ret
        exact ⟨by simp [hd], (by repeat (first | with_reducible exact Below.refl _ _ | with_reducible assumption | with_reducible refine below_more' ?_ (by go_size) | with_reducible refine bel_alloc ?_ _ (by go_size) | with_reducible refine Below.drew ?_ | with_reducible refine Below.setCell ?_ (by go_size) _ | with_reducible refine below_drewN ?_ _))⟩
      · go_enter Tryz.func16, Tryz.ntmps16
        go_wp2_with (first | (go_at_call 29; refine (HW.out _).mono ?_; rintro e w1 ⟨rfl, rfl⟩) | (go_at_call 23; refine (H8.out _).mono ?_; rintro e w1 ⟨rfl, rfl⟩) | (go_at_call 25; refine (H9.out _).mono ?_; rintro e w1 ⟨rfl, rfl⟩))
        go_ret
        exact ⟨by simp [hd], (by repeat (first | with_reducible exact Below.refl _ _ | with_reducible assumption | with_reducible refine below_more' ?_ (by go_size) | with_reducible refine bel_alloc ?_ _ (by go_size) | with_reducible refine Below.drew ?_ | with_reducible refine Below.setCell ?_ (by go_size) _ | with_reducible refine below_drewN ?_ _))⟩
    · go_enter Tryz.func16, Tryz.ntmps16
      go_wp2_with (first | (go_at_call 29; refine (HW.out _).mono ?_; rintro e w1 ⟨rfl, rfl⟩) | (go_at_call 23; refine (H8.out _).mono ?_; rintro e w1 ⟨rfl, rfl⟩))
      go_ret
      exact ⟨by simp [hd], (by repeat (first | with_reducible exact Below.refl _ _ | with_reducible assumption | with_reducible refine below_more' ?_ (by go_size) | with_reducible refine bel_alloc ?_ _ (by go_size) | with_reducible refine Below.drew ?_ | with_reducible refine Below.setCell ?_ (by go_size) _ | with_reducible refine below_drewN ?_ _))⟩
end Go.Proofs.YtpcihefhagipmaaGreatDoor
