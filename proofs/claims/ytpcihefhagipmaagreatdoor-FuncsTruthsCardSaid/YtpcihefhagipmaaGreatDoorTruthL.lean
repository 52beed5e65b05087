/-
  The plain laws of FuncsTruths; the document's May of a value.
-/
import Derived.Test.YtpcihefhagipmaaGreatDoorTruthF
import Derived.Test.YtpcihefhagipmaaGreatDoorFun
namespace Go.Proofs.YtpcihefhagipmaaGreatDoor
open Go Go.RowKit

theorem asBool_code {v : V} (h : mayG v = true) (h4 : v.tag ≠ 4) : (asBoolG v).2 = if v.tag = 2 then 4 else 0 := by
  unfold asBoolG asNumG
  simp only [h, h4, if_false, Bool.true_eq_false]
  split
  · rfl
  · split <;> rfl
theorem asBool_truth (b : Bool) : asBoolG (truthG b) = (b, 0) := by cases b <;> decide +kernel
theorem t_fault (fy : Nat → Nat → Bool) {v : V} (vs : List V) (h : v.tag = 4) : truthsG fy (v :: vs) = v := by simp [truthsG, h]
theorem t_code1 (fy : Nat → Nat → Bool) {v : V} (h : v.tag ≠ 4) (hc : (asBoolG v).2 ≠ 0) : truthsG fy [v] = errG (asBoolG v).2 := by simp [truthsG, h, hc]
theorem t_one (fy : Nat → Nat → Bool) {v : V} (h : v.tag ≠ 4) (hc : (asBoolG v).2 = 0) : truthsG fy [v] = truthG (fy (if (asBoolG v).1 then 1 else 0) 1) := by simp [truthsG, h, hc, List.countP_cons]
theorem t_fault2 (fy : Nat → Nat → Bool) {u v : V} (hu : u.tag ≠ 4) (h : v.tag = 4) : truthsG fy [u, v] = v := by simp [truthsG, h, hu]
theorem t_code2 (fy : Nat → Nat → Bool) {u v : V} (hu : u.tag ≠ 4) (hv : v.tag ≠ 4) (hc : (asBoolG u).2 ≠ 0) : truthsG fy [u, v] = errG (asBoolG u).2 := by simp [truthsG, hu, hv, hc]
theorem t_code2' (fy : Nat → Nat → Bool) {u v : V} (hu : u.tag ≠ 4) (hv : v.tag ≠ 4) (hu0 : (asBoolG u).2 = 0) (hc : (asBoolG v).2 ≠ 0) : truthsG fy [u, v] = errG (asBoolG v).2 := by simp [truthsG, hu, hv, hu0, hc]
theorem t_two (fy : Nat → Nat → Bool) {u v : V} (hu : u.tag ≠ 4) (hv : v.tag ≠ 4) (hu0 : (asBoolG u).2 = 0) (hv0 : (asBoolG v).2 = 0) : truthsG fy [u, v] = truthG (fy ((if (asBoolG v).1 then 1 else 0) + if (asBoolG u).1 then 1 else 0) 2) := by simp [truthsG, hu, hv, hu0, hv0, List.countP_cons]
theorem tag_truth (b : Bool) : (truthG b).tag ≠ 4 := by show (3 : Int) ≠ 4; decide
theorem tag_err (c : Int) : (errG c).tag = 4 := rfl

theorem law_not (x y : V) (hx : mayG x = true) (hy : mayG y = true) (hm : ¬ (x.tag = 2 ∧ y.tag = 4)) : truthsG fyNot [truthsG fyAnd [x, y]] = truthsG fyOr [truthsG fyNot [x], truthsG fyNot [y]] := by
  by_cases hx4 : x.tag = 4
  · rw [t_fault fyAnd [y] hx4, t_fault fyNot [] hx4, t_fault fyOr _ hx4]
  · have cx := asBool_code hx hx4
    by_cases hy4 : y.tag = 4
    · have hx2 : x.tag ≠ 2 := fun h => hm ⟨h, hy4⟩
      rw [if_neg hx2] at cx
      rw [t_fault2 fyAnd hx4 hy4, t_fault fyNot [] hy4, t_one fyNot hx4 cx, t_fault2 fyOr (tag_truth _) hy4]
    · have cy := asBool_code hy hy4
      by_cases hx2 : x.tag = 2
      · rw [if_pos hx2] at cx
        have hc : (asBoolG x).2 ≠ 0 := by rw [cx]; decide
        rw [t_code2 fyAnd hx4 hy4 hc, t_fault fyNot [] (tag_err _), t_code1 fyNot hx4 hc, t_fault fyOr _ (tag_err _)]
      · rw [if_neg hx2] at cx
        by_cases hy2 : y.tag = 2
        · rw [if_pos hy2] at cy
          have hc : (asBoolG y).2 ≠ 0 := by rw [cy]; decide
          rw [t_code2' fyAnd hx4 hy4 cx hc, t_fault fyNot [] (tag_err _), t_one fyNot hx4 cx, t_code1 fyNot hy4 hc, t_fault2 fyOr (tag_truth _) (tag_err _)]
        · rw [if_neg hy2] at cy
          rw [t_two fyAnd hx4 hy4 cx cy, t_one fyNot hx4 cx, t_one fyNot hy4 cy]
          have h0 : ∀ b, (asBoolG (truthG b)).2 = 0 := fun b => by rw [asBool_truth]
          rw [t_one fyNot (tag_truth _) (h0 _), t_two fyOr (tag_truth _) (tag_truth _) (h0 _) (h0 _)]
          simp only [asBool_truth]
          cases (asBoolG x).1 <;> cases (asBoolG y).1 <;> decide +kernel

theorem law_iferr (x y : V) : iferrG [x, y] = choiceG [truthG (x.tag == 4), y, x] := by
  by_cases h : x.tag = 4 <;> simp [iferrG, choiceG, asBool_truth, h]
theorem law_choose (x y : V) : chooseG [⟨1, 20000, ⟨#[]⟩, false, 0⟩, x, y] = y := by
  have h1 : integerG ⟨1, 20000, ⟨#[]⟩, false, 0⟩ = (2, 0) := by decide +kernel
  simp [chooseG, h1]
/-- What a value that may be is, where it is a fault. -/
theorem may_fault {x : V} (h : mayG x = true) (h4 : x.tag = 4) : x = ⟨4, 0, ⟨#[]⟩, false, x.code⟩ ∧ 1 ≤ x.code ∧ x.code ≤ 8 := by
  unfold mayG at h
  simp only [Bool.and_eq_true] at h
  obtain ⟨⟨_, h2⟩, h3⟩ := h
  have e := of_decide_eq_true (show decide (bareG x = ⟨x.tag, 0, ⟨#[]⟩, false, 0⟩) = true from h2)
  obtain ⟨a, b, s, c, d⟩ := x
  simp only at h4
  subst h4
  simp [bareG] at e
  obtain ⟨rfl, rfl, rfl⟩ := e
  simp [isCode] at h3
  exact ⟨rfl, h3.1, h3.2⟩
theorem law_errno (x : V) (h : mayG x = true) (h4 : x.tag = 4) (hc : x.code ≠ 1) : faultG (errnoG x) = x := by
  obtain ⟨e, h1, h8⟩ := may_fault h h4
  obtain ⟨a, b, s, c, d⟩ := x
  simp only at h4 hc h1 h8
  have hd : d = 2 ∨ d = 3 ∨ d = 4 ∨ d = 5 ∨ d = 6 ∨ d = 7 ∨ d = 8 := by omega
  rw [e]
  simp only
  clear e h h1 h8 hc
  rcases hd with rfl | rfl | rfl | rfl | rfl | rfl | rfl <;> decide +kernel
theorem may_tag {x : V} (h : mayG x = true) : 0 ≤ x.tag ∧ x.tag ≤ 4 := by
  unfold mayG at h
  simp only [Bool.and_eq_true, decide_eq_true_eq] at h
  exact h.1.1

theorem may_truth (b : Bool) : mayG (truthG b) = true := by cases b <;> decide +kernel
theorem may_err (c : Int) : mayG (errG c) = true := by
  unfold errG errC isCode
  split
  · rename_i h
    simp only [Bool.and_eq_true, decide_eq_true_eq] at h
    have hd : c = 1 ∨ c = 2 ∨ c = 3 ∨ c = 4 ∨ c = 5 ∨ c = 6 ∨ c = 7 ∨ c = 8 := by omega
    rcases hd with rfl | rfl | rfl | rfl | rfl | rfl | rfl | rfl <;> decide +kernel
  · decide +kernel
theorem may_truths (fy : Nat → Nat → Bool) (vs : List V) (h : vs.all mayG = true) : mayG (truthsG fy vs) = true := by
  unfold truthsG
  cases hf : vs.find? (fun v => v.tag == 4) with
  | some v => exact List.all_eq_true.1 h v (List.mem_of_find?_eq_some hf)
  | none =>
    cases hc : vs.find? (fun v => (asBoolG v).2 != 0) with
    | some v => exact may_err _
    | none => exact may_truth _
end Go.Proofs.YtpcihefhagipmaaGreatDoor
