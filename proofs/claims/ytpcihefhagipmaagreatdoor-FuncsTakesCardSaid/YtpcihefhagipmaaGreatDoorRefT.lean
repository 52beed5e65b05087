/-
  The document's answers: Known and Takes.
-/
import Derived.Test.YtpcihefhagipmaaGreatDoorRef
namespace Go.Proofs.YtpcihefhagipmaaGreatDoor
open Go Go.RowKit

theorem ref08_Known (s : ByteArray) (w : World) : Calls Tryz.prog 23 #[.string s] w fun e w' => e = .returned (.bool (decide (0 < (want08 s).2))) ∧ w' = w := by
  go_enter Tryz.func23, Tryz.ntmps23
  go_wp2_with (first | (go_at_call 40; refine (ref08_Wants s _).mono ?_; rintro e w1 ⟨rfl, rfl⟩))
  go_ret
  exact ⟨rfl, rfl⟩
theorem ref09_Known (s : ByteArray) (w : World) : Calls Tryz.prog 25 #[.string s] w fun e w' => e = .returned (.bool (decide (0 < (want09 s).2.1))) ∧ w' = w := by
  go_enter Tryz.func25, Tryz.ntmps25
  go_wp2_with (first | (go_at_call 41; refine (ref09_Wants s _).mono ?_; rintro e w1 ⟨rfl, rfl⟩))
  go_ret
  exact ⟨rfl, rfl⟩
theorem ref10_Known (s : ByteArray) (w : World) : Calls Tryz.prog 27 #[.string s] w fun e w' => e = .returned (.bool (decide (0 < (want10 s).2.2))) ∧ w' = w := by
  go_enter Tryz.func27, Tryz.ntmps27
  go_wp2_with (first | (go_at_call 42; refine (ref10_Wants s _).mono ?_; rintro e w1 ⟨rfl, rfl⟩))
  go_ret
  exact ⟨rfl, rfl⟩
end Go.Proofs.YtpcihefhagipmaaGreatDoor
