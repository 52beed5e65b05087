/-
  Parts of a proof: MayR.
-/
import Derived.Test.YtegbhdeaicgpkaaGreatDoorJ01
set_option linter.all false
namespace Go.Proofs.YtegbhdeaicgpkaaGreatDoor
open Go Go.RowKit
theorem ref01_May (x : Int) (w : World) : Calls Tryz.prog 41 #[.int .i64 x] w fun e w' => e = .returned (.bool (decide (-9223372036854775807 ≤ x))) ∧ Below w.heap.size w w' := by
  go_enter Tryz.func41, Tryz.ntmps41
  go_wp2
  go_ret
  exact ⟨rfl, (by (with_reducible repeat' (first | exact .refl _ _ | assumption | refine bmP ?_ ?_ | refine baP ?_ _ ?_ | refine .drew ?_ | refine .setCell ?_ ?_ _ | refine bdP ?_ _)) <;> go_size)⟩
theorem empty_iff (s : ByteArray) : (s = ⟨#[]⟩) = (s.toList.isEmpty = true) := by
  rw [ByteArray.toList_eq]
  refine propext ⟨fun h => by subst h; rfl, fun h => bytes_inj (by simpa using h)⟩
theorem ref02_May (v : V) (hlo : -9223372036854775808 ≤ v.num) (w : World) : Calls Tryz.prog 18 #[(Value.agg #[Value.int .i64 v.tag, Value.int .i64 v.num, Value.string v.str, Value.bool v.is, Value.int .i64 v.code])] w fun e w' => e = .returned (.bool (mayG v)) ∧ Below w.heap.size w w' := by
  obtain ⟨a, b, s, c, d⟩ := v
  dsimp only
  go_enter Tryz.func18, Tryz.ntmps18
  go_wp2_with (first | (go_at_call 41; refine (ref01_May _ _).mono ?_; rintro e w1 ⟨rfl, hb⟩; obtain ⟨l, n, rfl⟩ := more_of_below hb; clear hb))
  all_goals go_ret
  all_goals refine ⟨congrArg (fun b => Ending.returned (Value.bool b)) (?_ : _ = mayG _), (by (with_reducible repeat' (first | exact .refl _ _ | assumption | refine bmP ?_ ?_ | refine baP ?_ _ ?_ | refine .drew ?_ | refine .setCell ?_ ?_ _ | refine bdP ?_ _)) <;> go_size)⟩
  all_goals have he := empty_iff s
  all_goals simp_all [mayG, eqB, bareG, isCode, minI]
  · omega
  · omega
  · rw [Bool.eq_iff_iff]
    simp
    omega
end Go.Proofs.YtegbhdeaicgpkaaGreatDoor
