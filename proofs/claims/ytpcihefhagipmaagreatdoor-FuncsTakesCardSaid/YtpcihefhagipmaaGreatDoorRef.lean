/-
  The document's answers: which functions want what.
-/
import Derived.Test.YtpcihefhagipmaaGreatDoorTabU
namespace Go.Proofs.YtpcihefhagipmaaGreatDoor
open Go Go.RowKit

theorem str_ne {s : ByteArray} {l : Array UInt8} (h : ¬ (⟨l⟩ : ByteArray) = s) : (s.toList == l.toList) = false := by
  rw [ByteArray.toList_eq, beq_eq_false_iff_ne]
  intro e
  apply h
  cases s
  simp only [ByteArray.mk.injEq]
  exact (Array.toList_inj.1 e).symm

def want08 (s : ByteArray) : Int × Int := (numTab s).getD (0, -1)
def want09 (s : ByteArray) : Int × Int × ByteArray := match textTab s with
  | some (c, x) => (x, c.size, c)
  | none => (0, -1, ⟨#[]⟩)
def want10 (s : ByteArray) : ByteArray × Int × Int := (aggTab s).getD (⟨#[]⟩, 0, -1)
def want11 (s : ByteArray) : Int × Int := match ownTab s with
  | some (x, y, _) => (x, y)
  | none => (0, -1)

set_option maxRecDepth 100000 in
set_option maxHeartbeats 4000000 in
theorem ref08_Wants (s : ByteArray) (w : World) : Calls Tryz.prog 40 #[.string s] w fun e w' => e = .returned (.tuple #[.int .i64 (want08 s).1, .int .i64 (want08 s).2]) ∧ w' = w := by
  by_cases h0 : (⟨#[79, 68, 68]⟩ : ByteArray) = s
  · subst h0
    have e : want08 ⟨#[79, 68, 68]⟩ = (1, 1) := by decide +kernel
    rw [e]
    go_enter Tryz.func40, Tryz.ntmps40
    go_wp2
    go_ret2
    exact ⟨rfl, rfl⟩
  by_cases h1 : (⟨#[67, 76, 65, 77, 80]⟩ : ByteArray) = s
  · subst h1
    have e : want08 ⟨#[67, 76, 65, 77, 80]⟩ = (3, 3) := by decide +kernel
    rw [e]
    go_enter Tryz.func40, Tryz.ntmps40
    go_wp2
    go_ret2
    exact ⟨rfl, rfl⟩
  by_cases h2 : (⟨#[70, 65, 67, 84]⟩ : ByteArray) = s
  · subst h2
    have e : want08 ⟨#[70, 65, 67, 84]⟩ = (1, 1) := by decide +kernel
    rw [e]
    go_enter Tryz.func40, Tryz.ntmps40
    go_wp2
    go_ret2
    exact ⟨rfl, rfl⟩
  by_cases h3 : (⟨#[76, 67, 77]⟩ : ByteArray) = s
  · subst h3
    have e : want08 ⟨#[76, 67, 77]⟩ = (1, 16) := by decide +kernel
    rw [e]
    go_enter Tryz.func40, Tryz.ntmps40
    go_wp2
    go_ret2
    exact ⟨rfl, rfl⟩
  by_cases h4 : (⟨#[71, 67, 68]⟩ : ByteArray) = s
  · subst h4
    have e : want08 ⟨#[71, 67, 68]⟩ = (1, 16) := by decide +kernel
    rw [e]
    go_enter Tryz.func40, Tryz.ntmps40
    go_wp2
    go_ret2
    exact ⟨rfl, rfl⟩
  by_cases h5 : (⟨#[83, 81, 82, 84]⟩ : ByteArray) = s
  · subst h5
    have e : want08 ⟨#[83, 81, 82, 84]⟩ = (1, 1) := by decide +kernel
    rw [e]
    go_enter Tryz.func40, Tryz.ntmps40
    go_wp2
    go_ret2
    exact ⟨rfl, rfl⟩
  by_cases h6 : (⟨#[80, 79, 87, 69, 82]⟩ : ByteArray) = s
  · subst h6
    have e : want08 ⟨#[80, 79, 87, 69, 82]⟩ = (2, 2) := by decide +kernel
    rw [e]
    go_enter Tryz.func40, Tryz.ntmps40
    go_wp2
    go_ret2
    exact ⟨rfl, rfl⟩
  by_cases h7 : (⟨#[81, 85, 79, 84]⟩ : ByteArray) = s
  · subst h7
    have e : want08 ⟨#[81, 85, 79, 84]⟩ = (2, 2) := by decide +kernel
    rw [e]
    go_enter Tryz.func40, Tryz.ntmps40
    go_wp2
    go_ret2
    exact ⟨rfl, rfl⟩
  by_cases h8 : (⟨#[77, 79, 68]⟩ : ByteArray) = s
  · subst h8
    have e : want08 ⟨#[77, 79, 68]⟩ = (2, 2) := by decide +kernel
    rw [e]
    go_enter Tryz.func40, Tryz.ntmps40
    go_wp2
    go_ret2
    exact ⟨rfl, rfl⟩
  by_cases h9 : (⟨#[67, 69, 73, 76]⟩ : ByteArray) = s
  · subst h9
    have e : want08 ⟨#[67, 69, 73, 76]⟩ = (2, 2) := by decide +kernel
    rw [e]
    go_enter Tryz.func40, Tryz.ntmps40
    go_wp2
    go_ret2
    exact ⟨rfl, rfl⟩
  by_cases h10 : (⟨#[70, 76, 79, 79, 82]⟩ : ByteArray) = s
  · subst h10
    have e : want08 ⟨#[70, 76, 79, 79, 82]⟩ = (2, 2) := by decide +kernel
    rw [e]
    go_enter Tryz.func40, Tryz.ntmps40
    go_wp2
    go_ret2
    exact ⟨rfl, rfl⟩
  by_cases h11 : (⟨#[82, 79, 85, 78, 68]⟩ : ByteArray) = s
  · subst h11
    have e : want08 ⟨#[82, 79, 85, 78, 68]⟩ = (1, 2) := by decide +kernel
    rw [e]
    go_enter Tryz.func40, Tryz.ntmps40
    go_wp2
    go_ret2
    exact ⟨rfl, rfl⟩
  by_cases h12 : (⟨#[84, 82, 85, 78, 67]⟩ : ByteArray) = s
  · subst h12
    have e : want08 ⟨#[84, 82, 85, 78, 67]⟩ = (1, 2) := by decide +kernel
    rw [e]
    go_enter Tryz.func40, Tryz.ntmps40
    go_wp2
    go_ret2
    exact ⟨rfl, rfl⟩
  by_cases h13 : (⟨#[73, 78, 84]⟩ : ByteArray) = s
  · subst h13
    have e : want08 ⟨#[73, 78, 84]⟩ = (1, 1) := by decide +kernel
    rw [e]
    go_enter Tryz.func40, Tryz.ntmps40
    go_wp2
    go_ret2
    exact ⟨rfl, rfl⟩
  by_cases h14 : (⟨#[83, 73, 71, 78]⟩ : ByteArray) = s
  · subst h14
    have e : want08 ⟨#[83, 73, 71, 78]⟩ = (1, 1) := by decide +kernel
    rw [e]
    go_enter Tryz.func40, Tryz.ntmps40
    go_wp2
    go_ret2
    exact ⟨rfl, rfl⟩
  by_cases h15 : (⟨#[65, 66, 83]⟩ : ByteArray) = s
  · subst h15
    have e : want08 ⟨#[65, 66, 83]⟩ = (1, 1) := by decide +kernel
    rw [e]
    go_enter Tryz.func40, Tryz.ntmps40
    go_wp2
    go_ret2
    exact ⟨rfl, rfl⟩
  have e : want08 s = (0, -1) := by
    unfold want08 numTab
    simp only [if_neg h0, if_neg h1, if_neg h2, if_neg h3, if_neg h4, if_neg h5, if_neg h6, if_neg h7, if_neg h8, if_neg h9, if_neg h10, if_neg h11, if_neg h12, if_neg h13, if_neg h14, if_neg h15]
    all_goals rfl
  rw [e]
  have k0 : (s.toList == [79, 68, 68]) = false := str_ne h0
  have k1 : (s.toList == [67, 76, 65, 77, 80]) = false := str_ne h1
  have k2 : (s.toList == [70, 65, 67, 84]) = false := str_ne h2
  have k3 : (s.toList == [76, 67, 77]) = false := str_ne h3
  have k4 : (s.toList == [71, 67, 68]) = false := str_ne h4
  have k5 : (s.toList == [83, 81, 82, 84]) = false := str_ne h5
  have k6 : (s.toList == [80, 79, 87, 69, 82]) = false := str_ne h6
  have k7 : (s.toList == [81, 85, 79, 84]) = false := str_ne h7
  have k8 : (s.toList == [77, 79, 68]) = false := str_ne h8
  have k9 : (s.toList == [67, 69, 73, 76]) = false := str_ne h9
  have k10 : (s.toList == [70, 76, 79, 79, 82]) = false := str_ne h10
  have k11 : (s.toList == [82, 79, 85, 78, 68]) = false := str_ne h11
  have k12 : (s.toList == [84, 82, 85, 78, 67]) = false := str_ne h12
  have k13 : (s.toList == [73, 78, 84]) = false := str_ne h13
  have k14 : (s.toList == [83, 73, 71, 78]) = false := str_ne h14
  have k15 : (s.toList == [65, 66, 83]) = false := str_ne h15
  clear e h0 h1 h2 h3 h4 h5 h6 h7 h8 h9 h10 h11 h12 h13 h14 h15
  go_enter Tryz.func40, Tryz.ntmps40
  go_wp2
  go_ret2
  exact ⟨rfl, rfl⟩

set_option maxRecDepth 100000 in
set_option maxHeartbeats 4000000 in
theorem ref09_Wants (s : ByteArray) (w : World) : Calls Tryz.prog 41 #[.string s] w fun e w' => e = .returned (.tuple #[.int .i64 (want09 s).1, .int .i64 (want09 s).2.1, .string (want09 s).2.2]) ∧ w' = w := by
  by_cases h0 : (⟨#[78, 85, 77]⟩ : ByteArray) = s
  · subst h0
    have e : want09 ⟨#[78, 85, 77]⟩ = (1, 1, ⟨#[115]⟩) := by decide +kernel
    rw [e]
    go_enter Tryz.func41, Tryz.ntmps41
    go_wp2
    go_returns
    exact ⟨rfl, rfl⟩
  by_cases h1 : (⟨#[82, 69, 86]⟩ : ByteArray) = s
  · subst h1
    have e : want09 ⟨#[82, 69, 86]⟩ = (1, 1, ⟨#[115]⟩) := by decide +kernel
    rw [e]
    go_enter Tryz.func41, Tryz.ntmps41
    go_wp2
    go_returns
    exact ⟨rfl, rfl⟩
  by_cases h2 : (⟨#[69, 88, 65, 67, 84]⟩ : ByteArray) = s
  · subst h2
    have e : want09 ⟨#[69, 88, 65, 67, 84]⟩ = (2, 2, ⟨#[115, 115]⟩) := by decide +kernel
    rw [e]
    go_enter Tryz.func41, Tryz.ntmps41
    go_wp2
    go_returns
    exact ⟨rfl, rfl⟩
  by_cases h3 : (⟨#[67, 72, 65, 82]⟩ : ByteArray) = s
  · subst h3
    have e : want09 ⟨#[67, 72, 65, 82]⟩ = (1, 1, ⟨#[110]⟩) := by decide +kernel
    rw [e]
    go_enter Tryz.func41, Tryz.ntmps41
    go_wp2
    go_returns
    exact ⟨rfl, rfl⟩
  by_cases h4 : (⟨#[79, 82, 68]⟩ : ByteArray) = s
  · subst h4
    have e : want09 ⟨#[79, 82, 68]⟩ = (1, 1, ⟨#[115]⟩) := by decide +kernel
    rw [e]
    go_enter Tryz.func41, Tryz.ntmps41
    go_wp2
    go_returns
    exact ⟨rfl, rfl⟩
  by_cases h5 : (⟨#[67, 79, 78, 67, 65, 84]⟩ : ByteArray) = s
  · subst h5
    have e : want09 ⟨#[67, 79, 78, 67, 65, 84]⟩ = (1, 16, ⟨#[115, 115, 115, 115, 115, 115, 115, 115, 115, 115, 115, 115, 115, 115, 115, 115]⟩) := by decide +kernel
    rw [e]
    go_enter Tryz.func41, Tryz.ntmps41
    go_wp2
    go_returns
    exact ⟨rfl, rfl⟩
  by_cases h6 : (⟨#[83, 85, 66, 83, 84]⟩ : ByteArray) = s
  · subst h6
    have e : want09 ⟨#[83, 85, 66, 83, 84]⟩ = (3, 3, ⟨#[115, 115, 115]⟩) := by decide +kernel
    rw [e]
    go_enter Tryz.func41, Tryz.ntmps41
    go_wp2
    go_returns
    exact ⟨rfl, rfl⟩
  by_cases h7 : (⟨#[70, 73, 78, 68]⟩ : ByteArray) = s
  · subst h7
    have e : want09 ⟨#[70, 73, 78, 68]⟩ = (2, 3, ⟨#[115, 115, 110]⟩) := by decide +kernel
    rw [e]
    go_enter Tryz.func41, Tryz.ntmps41
    go_wp2
    go_returns
    exact ⟨rfl, rfl⟩
  by_cases h8 : (⟨#[82, 69, 80, 84]⟩ : ByteArray) = s
  · subst h8
    have e : want09 ⟨#[82, 69, 80, 84]⟩ = (2, 2, ⟨#[115, 110]⟩) := by decide +kernel
    rw [e]
    go_enter Tryz.func41, Tryz.ntmps41
    go_wp2
    go_returns
    exact ⟨rfl, rfl⟩
  by_cases h9 : (⟨#[84, 82, 73, 77]⟩ : ByteArray) = s
  · subst h9
    have e : want09 ⟨#[84, 82, 73, 77]⟩ = (1, 1, ⟨#[115]⟩) := by decide +kernel
    rw [e]
    go_enter Tryz.func41, Tryz.ntmps41
    go_wp2
    go_returns
    exact ⟨rfl, rfl⟩
  by_cases h10 : (⟨#[76, 79, 87, 69, 82]⟩ : ByteArray) = s
  · subst h10
    have e : want09 ⟨#[76, 79, 87, 69, 82]⟩ = (1, 1, ⟨#[115]⟩) := by decide +kernel
    rw [e]
    go_enter Tryz.func41, Tryz.ntmps41
    go_wp2
    go_returns
    exact ⟨rfl, rfl⟩
  by_cases h11 : (⟨#[85, 80, 80, 69, 82]⟩ : ByteArray) = s
  · subst h11
    have e : want09 ⟨#[85, 80, 80, 69, 82]⟩ = (1, 1, ⟨#[115]⟩) := by decide +kernel
    rw [e]
    go_enter Tryz.func41, Tryz.ntmps41
    go_wp2
    go_returns
    exact ⟨rfl, rfl⟩
  by_cases h12 : (⟨#[77, 73, 68]⟩ : ByteArray) = s
  · subst h12
    have e : want09 ⟨#[77, 73, 68]⟩ = (3, 3, ⟨#[115, 110, 110]⟩) := by decide +kernel
    rw [e]
    go_enter Tryz.func41, Tryz.ntmps41
    go_wp2
    go_returns
    exact ⟨rfl, rfl⟩
  by_cases h13 : (⟨#[82, 73, 71, 72, 84]⟩ : ByteArray) = s
  · subst h13
    have e : want09 ⟨#[82, 73, 71, 72, 84]⟩ = (1, 2, ⟨#[115, 110]⟩) := by decide +kernel
    rw [e]
    go_enter Tryz.func41, Tryz.ntmps41
    go_wp2
    go_returns
    exact ⟨rfl, rfl⟩
  by_cases h14 : (⟨#[76, 69, 70, 84]⟩ : ByteArray) = s
  · subst h14
    have e : want09 ⟨#[76, 69, 70, 84]⟩ = (1, 2, ⟨#[115, 110]⟩) := by decide +kernel
    rw [e]
    go_enter Tryz.func41, Tryz.ntmps41
    go_wp2
    go_returns
    exact ⟨rfl, rfl⟩
  by_cases h15 : (⟨#[76, 69, 78]⟩ : ByteArray) = s
  · subst h15
    have e : want09 ⟨#[76, 69, 78]⟩ = (1, 1, ⟨#[115]⟩) := by decide +kernel
    rw [e]
    go_enter Tryz.func41, Tryz.ntmps41
    go_wp2
    go_returns
    exact ⟨rfl, rfl⟩
  have e : want09 s = (0, -1, ⟨#[]⟩) := by
    unfold want09 textTab
    simp only [if_neg h0, if_neg h1, if_neg h2, if_neg h3, if_neg h4, if_neg h5, if_neg h6, if_neg h7, if_neg h8, if_neg h9, if_neg h10, if_neg h11, if_neg h12, if_neg h13, if_neg h14, if_neg h15]
    all_goals rfl
  rw [e]
  have k0 : (s.toList == [78, 85, 77]) = false := str_ne h0
  have k1 : (s.toList == [82, 69, 86]) = false := str_ne h1
  have k2 : (s.toList == [69, 88, 65, 67, 84]) = false := str_ne h2
  have k3 : (s.toList == [67, 72, 65, 82]) = false := str_ne h3
  have k4 : (s.toList == [79, 82, 68]) = false := str_ne h4
  have k5 : (s.toList == [67, 79, 78, 67, 65, 84]) = false := str_ne h5
  have k6 : (s.toList == [83, 85, 66, 83, 84]) = false := str_ne h6
  have k7 : (s.toList == [70, 73, 78, 68]) = false := str_ne h7
  have k8 : (s.toList == [82, 69, 80, 84]) = false := str_ne h8
  have k9 : (s.toList == [84, 82, 73, 77]) = false := str_ne h9
  have k10 : (s.toList == [76, 79, 87, 69, 82]) = false := str_ne h10
  have k11 : (s.toList == [85, 80, 80, 69, 82]) = false := str_ne h11
  have k12 : (s.toList == [77, 73, 68]) = false := str_ne h12
  have k13 : (s.toList == [82, 73, 71, 72, 84]) = false := str_ne h13
  have k14 : (s.toList == [76, 69, 70, 84]) = false := str_ne h14
  have k15 : (s.toList == [76, 69, 78]) = false := str_ne h15
  clear e h0 h1 h2 h3 h4 h5 h6 h7 h8 h9 h10 h11 h12 h13 h14 h15
  go_enter Tryz.func41, Tryz.ntmps41
  go_wp2
  go_returns
  exact ⟨rfl, rfl⟩

set_option maxRecDepth 100000 in
set_option maxHeartbeats 4000000 in
theorem ref10_Wants (s : ByteArray) (w : World) : Calls Tryz.prog 42 #[.string s] w fun e w' => e = .returned (.tuple #[.string (want10 s).1, .int .i64 (want10 s).2.1, .int .i64 (want10 s).2.2]) ∧ w' = w := by
  by_cases h0 : (⟨#[67, 79, 76, 83]⟩ : ByteArray) = s
  · subst h0
    have e : want10 ⟨#[67, 79, 76, 83]⟩ = (⟨#[114]⟩, 1, 1) := by decide +kernel
    rw [e]
    go_enter Tryz.func42, Tryz.ntmps42
    go_wp2
    go_returns
    exact ⟨rfl, rfl⟩
  by_cases h1 : (⟨#[82, 79, 87, 83]⟩ : ByteArray) = s
  · subst h1
    have e : want10 ⟨#[82, 79, 87, 83]⟩ = (⟨#[114]⟩, 1, 1) := by decide +kernel
    rw [e]
    go_enter Tryz.func42, Tryz.ntmps42
    go_wp2
    go_returns
    exact ⟨rfl, rfl⟩
  by_cases h2 : (⟨#[74, 79, 73, 78]⟩ : ByteArray) = s
  · subst h2
    have e : want10 ⟨#[74, 79, 73, 78]⟩ = (⟨#[118, 120]⟩, 2, 16) := by decide +kernel
    rw [e]
    go_enter Tryz.func42, Tryz.ntmps42
    go_wp2
    go_returns
    exact ⟨rfl, rfl⟩
  by_cases h3 : (⟨#[76, 65, 82, 71, 69]⟩ : ByteArray) = s
  · subst h3
    have e : want10 ⟨#[76, 65, 82, 71, 69]⟩ = (⟨#[114, 118]⟩, 2, 2) := by decide +kernel
    rw [e]
    go_enter Tryz.func42, Tryz.ntmps42
    go_wp2
    go_returns
    exact ⟨rfl, rfl⟩
  by_cases h4 : (⟨#[73, 78, 68, 69, 88]⟩ : ByteArray) = s
  · subst h4
    have e : want10 ⟨#[73, 78, 68, 69, 88]⟩ = (⟨#[114, 118, 118]⟩, 3, 3) := by decide +kernel
    rw [e]
    go_enter Tryz.func42, Tryz.ntmps42
    go_wp2
    go_returns
    exact ⟨rfl, rfl⟩
  by_cases h5 : (⟨#[76, 79, 79, 75, 85, 80]⟩ : ByteArray) = s
  · subst h5
    have e : want10 ⟨#[76, 79, 79, 75, 85, 80]⟩ = (⟨#[118, 114, 114]⟩, 3, 3) := by decide +kernel
    rw [e]
    go_enter Tryz.func42, Tryz.ntmps42
    go_wp2
    go_returns
    exact ⟨rfl, rfl⟩
  by_cases h6 : (⟨#[77, 65, 84, 67, 72]⟩ : ByteArray) = s
  · subst h6
    have e : want10 ⟨#[77, 65, 84, 67, 72]⟩ = (⟨#[118, 114]⟩, 2, 2) := by decide +kernel
    rw [e]
    go_enter Tryz.func42, Tryz.ntmps42
    go_wp2
    go_returns
    exact ⟨rfl, rfl⟩
  by_cases h7 : (⟨#[83, 85, 77, 73, 70]⟩ : ByteArray) = s
  · subst h7
    have e : want10 ⟨#[83, 85, 77, 73, 70]⟩ = (⟨#[114, 118, 114]⟩, 3, 3) := by decide +kernel
    rw [e]
    go_enter Tryz.func42, Tryz.ntmps42
    go_wp2
    go_returns
    exact ⟨rfl, rfl⟩
  by_cases h8 : (⟨#[67, 79, 85, 78, 84, 73, 70]⟩ : ByteArray) = s
  · subst h8
    have e : want10 ⟨#[67, 79, 85, 78, 84, 73, 70]⟩ = (⟨#[114, 118]⟩, 2, 2) := by decide +kernel
    rw [e]
    go_enter Tryz.func42, Tryz.ntmps42
    go_wp2
    go_returns
    exact ⟨rfl, rfl⟩
  by_cases h9 : (⟨#[66, 76, 65, 78, 75, 83]⟩ : ByteArray) = s
  · subst h9
    have e : want10 ⟨#[66, 76, 65, 78, 75, 83]⟩ = (⟨#[114]⟩, 1, 1) := by decide +kernel
    rw [e]
    go_enter Tryz.func42, Tryz.ntmps42
    go_wp2
    go_returns
    exact ⟨rfl, rfl⟩
  by_cases h10 : (⟨#[67, 79, 85, 78, 84, 65]⟩ : ByteArray) = s
  · subst h10
    have e : want10 ⟨#[67, 79, 85, 78, 84, 65]⟩ = (⟨#[120]⟩, 1, 16) := by decide +kernel
    rw [e]
    go_enter Tryz.func42, Tryz.ntmps42
    go_wp2
    go_returns
    exact ⟨rfl, rfl⟩
  by_cases h11 : (⟨#[67, 79, 85, 78, 84]⟩ : ByteArray) = s
  · subst h11
    have e : want10 ⟨#[67, 79, 85, 78, 84]⟩ = (⟨#[120]⟩, 1, 16) := by decide +kernel
    rw [e]
    go_enter Tryz.func42, Tryz.ntmps42
    go_wp2
    go_returns
    exact ⟨rfl, rfl⟩
  by_cases h12 : (⟨#[77, 69, 68, 73, 65, 78]⟩ : ByteArray) = s
  · subst h12
    have e : want10 ⟨#[77, 69, 68, 73, 65, 78]⟩ = (⟨#[120]⟩, 1, 16) := by decide +kernel
    rw [e]
    go_enter Tryz.func42, Tryz.ntmps42
    go_wp2
    go_returns
    exact ⟨rfl, rfl⟩
  by_cases h13 : (⟨#[65, 86, 71]⟩ : ByteArray) = s
  · subst h13
    have e : want10 ⟨#[65, 86, 71]⟩ = (⟨#[120]⟩, 1, 16) := by decide +kernel
    rw [e]
    go_enter Tryz.func42, Tryz.ntmps42
    go_wp2
    go_returns
    exact ⟨rfl, rfl⟩
  by_cases h14 : (⟨#[77, 65, 88]⟩ : ByteArray) = s
  · subst h14
    have e : want10 ⟨#[77, 65, 88]⟩ = (⟨#[120]⟩, 1, 16) := by decide +kernel
    rw [e]
    go_enter Tryz.func42, Tryz.ntmps42
    go_wp2
    go_returns
    exact ⟨rfl, rfl⟩
  by_cases h15 : (⟨#[77, 73, 78]⟩ : ByteArray) = s
  · subst h15
    have e : want10 ⟨#[77, 73, 78]⟩ = (⟨#[120]⟩, 1, 16) := by decide +kernel
    rw [e]
    go_enter Tryz.func42, Tryz.ntmps42
    go_wp2
    go_returns
    exact ⟨rfl, rfl⟩
  by_cases h16 : (⟨#[80, 82, 79, 68]⟩ : ByteArray) = s
  · subst h16
    have e : want10 ⟨#[80, 82, 79, 68]⟩ = (⟨#[120]⟩, 1, 16) := by decide +kernel
    rw [e]
    go_enter Tryz.func42, Tryz.ntmps42
    go_wp2
    go_returns
    exact ⟨rfl, rfl⟩
  by_cases h17 : (⟨#[83, 85, 77]⟩ : ByteArray) = s
  · subst h17
    have e : want10 ⟨#[83, 85, 77]⟩ = (⟨#[120]⟩, 1, 16) := by decide +kernel
    rw [e]
    go_enter Tryz.func42, Tryz.ntmps42
    go_wp2
    go_returns
    exact ⟨rfl, rfl⟩
  have e : want10 s = (⟨#[]⟩, 0, -1) := by
    unfold want10 aggTab
    simp only [if_neg h0, if_neg h1, if_neg h2, if_neg h3, if_neg h4, if_neg h5, if_neg h6, if_neg h7, if_neg h8, if_neg h9, if_neg h10, if_neg h11, if_neg h12, if_neg h13, if_neg h14, if_neg h15, if_neg h16, if_neg h17]
    all_goals rfl
  rw [e]
  have k0 : (s.toList == [67, 79, 76, 83]) = false := str_ne h0
  have k1 : (s.toList == [82, 79, 87, 83]) = false := str_ne h1
  have k2 : (s.toList == [74, 79, 73, 78]) = false := str_ne h2
  have k3 : (s.toList == [76, 65, 82, 71, 69]) = false := str_ne h3
  have k4 : (s.toList == [73, 78, 68, 69, 88]) = false := str_ne h4
  have k5 : (s.toList == [76, 79, 79, 75, 85, 80]) = false := str_ne h5
  have k6 : (s.toList == [77, 65, 84, 67, 72]) = false := str_ne h6
  have k7 : (s.toList == [83, 85, 77, 73, 70]) = false := str_ne h7
  have k8 : (s.toList == [67, 79, 85, 78, 84, 73, 70]) = false := str_ne h8
  have k9 : (s.toList == [66, 76, 65, 78, 75, 83]) = false := str_ne h9
  have k10 : (s.toList == [67, 79, 85, 78, 84, 65]) = false := str_ne h10
  have k11 : (s.toList == [67, 79, 85, 78, 84]) = false := str_ne h11
  have k12 : (s.toList == [77, 69, 68, 73, 65, 78]) = false := str_ne h12
  have k13 : (s.toList == [65, 86, 71]) = false := str_ne h13
  have k14 : (s.toList == [77, 65, 88]) = false := str_ne h14
  have k15 : (s.toList == [77, 73, 78]) = false := str_ne h15
  have k16 : (s.toList == [80, 82, 79, 68]) = false := str_ne h16
  have k17 : (s.toList == [83, 85, 77]) = false := str_ne h17
  clear e h0 h1 h2 h3 h4 h5 h6 h7 h8 h9 h10 h11 h12 h13 h14 h15 h16 h17
  go_enter Tryz.func42, Tryz.ntmps42
  go_wp2
  go_returns
  exact ⟨rfl, rfl⟩

set_option maxRecDepth 100000 in
set_option maxHeartbeats 4000000 in
theorem ref11_wants (s : ByteArray) (w : World) : Calls Tryz.prog 29 #[.string s] w fun e w' => e = .returned (.tuple #[.int .i64 (want11 s).1, .int .i64 (want11 s).2]) ∧ w' = w := by
  by_cases h0 : (⟨#[65, 83, 75]⟩ : ByteArray) = s
  · subst h0
    have e : want11 ⟨#[65, 83, 75]⟩ = (1, 1) := by decide +kernel
    rw [e]
    go_enter Tryz.func29, Tryz.ntmps29
    go_wp2
    go_ret2
    exact ⟨rfl, rfl⟩
  by_cases h1 : (⟨#[67, 72, 79, 79, 83, 69]⟩ : ByteArray) = s
  · subst h1
    have e : want11 ⟨#[67, 72, 79, 79, 83, 69]⟩ = (2, 16) := by decide +kernel
    rw [e]
    go_enter Tryz.func29, Tryz.ntmps29
    go_wp2
    go_ret2
    exact ⟨rfl, rfl⟩
  by_cases h2 : (⟨#[69, 82, 82]⟩ : ByteArray) = s
  · subst h2
    have e : want11 ⟨#[69, 82, 82]⟩ = (1, 1) := by decide +kernel
    rw [e]
    go_enter Tryz.func29, Tryz.ntmps29
    go_wp2
    go_ret2
    exact ⟨rfl, rfl⟩
  by_cases h3 : (⟨#[69, 82, 82, 78, 79]⟩ : ByteArray) = s
  · subst h3
    have e : want11 ⟨#[69, 82, 82, 78, 79]⟩ = (1, 1) := by decide +kernel
    rw [e]
    go_enter Tryz.func29, Tryz.ntmps29
    go_wp2
    go_ret2
    exact ⟨rfl, rfl⟩
  by_cases h4 : (⟨#[84, 89, 80, 69]⟩ : ByteArray) = s
  · subst h4
    have e : want11 ⟨#[84, 89, 80, 69]⟩ = (1, 1) := by decide +kernel
    rw [e]
    go_enter Tryz.func29, Tryz.ntmps29
    go_wp2
    go_ret2
    exact ⟨rfl, rfl⟩
  by_cases h5 : (⟨#[73, 83, 66, 79, 79, 76]⟩ : ByteArray) = s
  · subst h5
    have e : want11 ⟨#[73, 83, 66, 79, 79, 76]⟩ = (1, 1) := by decide +kernel
    rw [e]
    go_enter Tryz.func29, Tryz.ntmps29
    go_wp2
    go_ret2
    exact ⟨rfl, rfl⟩
  by_cases h6 : (⟨#[73, 83, 84, 69, 88, 84]⟩ : ByteArray) = s
  · subst h6
    have e : want11 ⟨#[73, 83, 84, 69, 88, 84]⟩ = (1, 1) := by decide +kernel
    rw [e]
    go_enter Tryz.func29, Tryz.ntmps29
    go_wp2
    go_ret2
    exact ⟨rfl, rfl⟩
  by_cases h7 : (⟨#[73, 83, 78, 85, 77]⟩ : ByteArray) = s
  · subst h7
    have e : want11 ⟨#[73, 83, 78, 85, 77]⟩ = (1, 1) := by decide +kernel
    rw [e]
    go_enter Tryz.func29, Tryz.ntmps29
    go_wp2
    go_ret2
    exact ⟨rfl, rfl⟩
  by_cases h8 : (⟨#[73, 83, 66, 76, 65, 78, 75]⟩ : ByteArray) = s
  · subst h8
    have e : want11 ⟨#[73, 83, 66, 76, 65, 78, 75]⟩ = (1, 1) := by decide +kernel
    rw [e]
    go_enter Tryz.func29, Tryz.ntmps29
    go_wp2
    go_ret2
    exact ⟨rfl, rfl⟩
  by_cases h9 : (⟨#[73, 83, 69, 82, 82]⟩ : ByteArray) = s
  · subst h9
    have e : want11 ⟨#[73, 83, 69, 82, 82]⟩ = (1, 1) := by decide +kernel
    rw [e]
    go_enter Tryz.func29, Tryz.ntmps29
    go_wp2
    go_ret2
    exact ⟨rfl, rfl⟩
  by_cases h10 : (⟨#[73, 70, 69, 82, 82]⟩ : ByteArray) = s
  · subst h10
    have e : want11 ⟨#[73, 70, 69, 82, 82]⟩ = (2, 2) := by decide +kernel
    rw [e]
    go_enter Tryz.func29, Tryz.ntmps29
    go_wp2
    go_ret2
    exact ⟨rfl, rfl⟩
  by_cases h11 : (⟨#[78, 79, 84]⟩ : ByteArray) = s
  · subst h11
    have e : want11 ⟨#[78, 79, 84]⟩ = (1, 1) := by decide +kernel
    rw [e]
    go_enter Tryz.func29, Tryz.ntmps29
    go_wp2
    go_ret2
    exact ⟨rfl, rfl⟩
  by_cases h12 : (⟨#[88, 79, 82]⟩ : ByteArray) = s
  · subst h12
    have e : want11 ⟨#[88, 79, 82]⟩ = (1, 16) := by decide +kernel
    rw [e]
    go_enter Tryz.func29, Tryz.ntmps29
    go_wp2
    go_ret2
    exact ⟨rfl, rfl⟩
  by_cases h13 : (⟨#[79, 82]⟩ : ByteArray) = s
  · subst h13
    have e : want11 ⟨#[79, 82]⟩ = (1, 16) := by decide +kernel
    rw [e]
    go_enter Tryz.func29, Tryz.ntmps29
    go_wp2
    go_ret2
    exact ⟨rfl, rfl⟩
  by_cases h14 : (⟨#[65, 78, 68]⟩ : ByteArray) = s
  · subst h14
    have e : want11 ⟨#[65, 78, 68]⟩ = (1, 16) := by decide +kernel
    rw [e]
    go_enter Tryz.func29, Tryz.ntmps29
    go_wp2
    go_ret2
    exact ⟨rfl, rfl⟩
  by_cases h15 : (⟨#[73, 70]⟩ : ByteArray) = s
  · subst h15
    have e : want11 ⟨#[73, 70]⟩ = (2, 3) := by decide +kernel
    rw [e]
    go_enter Tryz.func29, Tryz.ntmps29
    go_wp2
    go_ret2
    exact ⟨rfl, rfl⟩
  have e : want11 s = (0, -1) := by
    unfold want11 ownTab
    simp only [if_neg h0, if_neg h1, if_neg h2, if_neg h3, if_neg h4, if_neg h5, if_neg h6, if_neg h7, if_neg h8, if_neg h9, if_neg h10, if_neg h11, if_neg h12, if_neg h13, if_neg h14, if_neg h15]
    all_goals rfl
  rw [e]
  have k0 : (s.toList == [65, 83, 75]) = false := str_ne h0
  have k1 : (s.toList == [67, 72, 79, 79, 83, 69]) = false := str_ne h1
  have k2 : (s.toList == [69, 82, 82]) = false := str_ne h2
  have k3 : (s.toList == [69, 82, 82, 78, 79]) = false := str_ne h3
  have k4 : (s.toList == [84, 89, 80, 69]) = false := str_ne h4
  have k5 : (s.toList == [73, 83, 66, 79, 79, 76]) = false := str_ne h5
  have k6 : (s.toList == [73, 83, 84, 69, 88, 84]) = false := str_ne h6
  have k7 : (s.toList == [73, 83, 78, 85, 77]) = false := str_ne h7
  have k8 : (s.toList == [73, 83, 66, 76, 65, 78, 75]) = false := str_ne h8
  have k9 : (s.toList == [73, 83, 69, 82, 82]) = false := str_ne h9
  have k10 : (s.toList == [73, 70, 69, 82, 82]) = false := str_ne h10
  have k11 : (s.toList == [78, 79, 84]) = false := str_ne h11
  have k12 : (s.toList == [88, 79, 82]) = false := str_ne h12
  have k13 : (s.toList == [79, 82]) = false := str_ne h13
  have k14 : (s.toList == [65, 78, 68]) = false := str_ne h14
  have k15 : (s.toList == [73, 70]) = false := str_ne h15
  clear e h0 h1 h2 h3 h4 h5 h6 h7 h8 h9 h10 h11 h12 h13 h14 h15
  go_enter Tryz.func29, Tryz.ntmps29
  go_wp2
  go_ret2
  exact ⟨rfl, rfl⟩
end Go.Proofs.YtpcihefhagipmaaGreatDoor
