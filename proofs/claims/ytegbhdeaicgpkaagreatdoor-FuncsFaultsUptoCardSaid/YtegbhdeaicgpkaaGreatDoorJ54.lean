/-
  Parts of a proof: Good.
-/
import Derived.Test.YtegbhdeaicgpkaaGreatDoorJ36
import Derived.Test.YtegbhdeaicgpkaaGreatDoorJ14
set_option linter.all false
namespace Go.Proofs.YtegbhdeaicgpkaaGreatDoor
open Go Go.RowKit
def Good (C : Prop) (v : V) : Prop := mayG v = true ∧ (C → v.code ≠ 1) ∧ In63 v.num
theorem zero63 : In63 0 := ⟨by decide, by decide⟩
theorem good_ite {C p : Prop} [Decidable p] {a b : V} (h1 : Good C a) (h2 : Good C b) : Good C (if p then a else b) := by
  split
  · exact h1
  · exact h2
theorem good_num (C : Prop) {x : Int} (h : Is64 x) : Good C (numG x) := by
  unfold numG
  split
  · exact ⟨by decide +kernel, fun _ => by decide, by decide, by decide⟩
  · rename_i h0
    refine ⟨by simp [mayG, bareG, eqB, h0], fun _ => by simp, ?_⟩
    unfold minI at h0
    unfold Is64 at h
    exact ⟨by simp only; omega, by simp only; omega⟩
theorem good_err (C : Prop) {c : Int} (h : C → c ≠ 1) : Good C (errG c) := by
  refine ⟨may_err c, fun hc => ?_, zero63⟩
  have h1 := h hc
  unfold errG errC
  dsimp only
  split
  · exact h1
  · decide
theorem good_txt (C : Prop) (s : ByteArray) : Good C (txtG s) := ⟨by simp [mayG, bareG, eqB, txtG], fun _ => by simp [txtG], zero63⟩
theorem good_truth (C : Prop) (b : Bool) : Good C (truthG b) := ⟨may_truth b, fun _ => by simp [truthG], zero63⟩
theorem good_zero (C : Prop) : Good C ⟨0, 0, ⟨#[]⟩, false, 0⟩ := ⟨by decide +kernel, fun _ => by decide, by decide, by decide⟩
def PB (p : Int × Int) : Prop := p.2 ≠ 1 ∧ In63 p.1
theorem pb_zero {c : Int} (h : c ≠ 1) : PB (0, c) := ⟨h, zero63⟩
theorem pb_ite {p : Prop} [Decidable p] {a b : Int × Int} (h1 : PB a) (h2 : PB b) : PB (if p then a else b) := by
  split
  · exact h1
  · exact h2
theorem good_numC (C : Prop) {p : Int × Int} (h : PB p) : Good C (numC p) := by
  unfold numC
  split
  · exact good_err C fun _ => h.1
  · exact good_num C h.2.to64
theorem good_wholeX (C : Prop) (n : Nat) (low : Bool) : Good C (wholeX n low) := by
  unfold wholeX
  split
  · exact good_err C fun _ => by decide
  · refine good_num C ?_
    unfold Is64
    split <;> omega
theorem good_told (C : Prop) (t : Int) (s : ByteArray) : Good C (toldX t s) := by
  unfold toldX
  split
  · exact good_err C fun _ => by decide
  · exact good_txt C _
theorem sign_pb (n : Nat) (b : Bool) : PB (signX n b) := by
  unfold signX
  split
  · exact pb_zero (by decide)
  · refine ⟨by simp, ?_⟩
    unfold In63
    split <;> (simp only; omega)
theorem add_pb (a b : Int) : PB (addX a b) := by
  unfold addX
  split
  · exact pb_zero (by decide)
  · refine ⟨by simp, ?_⟩
    unfold In63
    simp only
    omega
theorem sub_pb (a b : Int) : PB (subX a b) := pb_ite (pb_zero (by decide)) (add_pb _ _)
theorem mod_pb (a b : Int) (hb : In63 b) : PB (modX a b) := by
  unfold modX
  refine pb_ite (pb_zero (by decide)) ?_
  by_cases h0 : b = 0
  · rw [if_pos h0]; exact pb_zero (by decide)
  · rw [if_neg h0]
    have h1 := Int.natAbs_tmod a b
    have h2 := Nat.mod_lt a.natAbs (show 0 < b.natAbs by omega)
    unfold In63 at hb
    refine ⟨by simp, ?_⟩
    unfold In63
    split
    · rename_i h
      have h3 := h.2
      by_cases hb0 : b < 0 <;> by_cases ht : a.tmod b < 0 <;> simp [hb0, ht] at h3 <;> (simp only; omega)
    · simp only
      omega
theorem mul_pb (a b : Int) : PB (mulX a b) := pb_ite (pb_zero (by decide)) (pb_ite (pb_zero (by decide)) (sign_pb _ _))
theorem floor2_pb (x s : Int) (hs : In63 s) : PB (floor2X x s) := pb_ite (pb_zero (by decide)) (pb_ite (pb_zero (mod_pb x s hs).1) (sub_pb _ _))
theorem ceil_pb (x s : Int) (hs : In63 s) : PB (ceilX x s) := by
  have h := floor2_pb (-x) s hs
  refine ⟨h.1, ?_⟩
  have h1 := h.2
  unfold In63 at h1 ⊢
  unfold ceilX
  simp only
  omega
theorem floor_pb (x : Int) : PB (floorX x) := pb_ite (pb_zero (mod_pb x 10000 ⟨by decide, by decide⟩).1) (sub_pb _ _)
theorem round_pb (x p : Int) (hx : In63 x) : PB (roundX x p) := by
  unfold roundX roundN
  exact pb_ite (pb_zero (by decide)) (pb_ite ⟨by simp, hx⟩ (pb_ite (pb_zero (by decide)) (pb_ite (pb_zero (by decide)) (sign_pb _ _))))
theorem pow_pb (x n : Int) : PB (powX x n) := by
  unfold powX powE
  exact pb_ite (pb_zero (by decide)) (pb_ite (pb_zero (by decide)) (pb_ite ⟨by simp, by decide, by decide⟩ (pb_ite (pb_zero (by decide)) (pb_ite (pb_zero (by decide)) (sign_pb _ _)))))
theorem sqrt_pb (x : Int) : PB (sqrtX x) := pb_ite (pb_zero (by decide)) (pb_ite (pb_zero (by decide)) ⟨by simp, by
  have h := sq_lt (x.toNat * 40000) 41 (by omega)
  unfold In63
  simp only
  omega⟩)
theorem trunc_pb (x n : Int) (hx : In63 x) : PB (truncP x n) := by
  refine ⟨by unfold truncP; simp, ?_⟩
  unfold truncP truncX
  simp only
  split
  · exact hx
  · split
    · exact ⟨by decide, by decide⟩
    · have h1 : (x.tdiv (10 ^ (4 - n).toNat) * 10 ^ (4 - n).toNat).natAbs ≤ x.natAbs := by
        rw [Int.natAbs_mul, Int.natAbs_tdiv]
        exact Nat.div_mul_le_self _ _
      unfold In63 at hx ⊢
      omega
theorem good_places (C : Prop) (f : Int → Int → Int × Int) {x y : Int} (h : ∀ y, PB (f x y)) : Good C (placesX f x y) := by
  unfold placesX
  split
  · exact good_numC C (h _)
  · exact good_err C fun _ => by decide
theorem good_lcmGo (C : Prop) : ∀ (l : List Nat) (m : Nat), Good C (lcmGo l m)
  | [], m => good_wholeX C m false
  | n :: ns, m => by
    unfold lcmGo
    split
    · exact good_err C fun _ => by decide
    · exact good_lcmGo C ns _
theorem in_getD {l : List Int} (h : ∀ x ∈ l, In63 x) (i : Nat) : In63 (l.getD i 0) := by
  rw [List.getD_eq_getElem?_getD]
  cases e : l[i]? with
  | none => exact ⟨by decide, by decide⟩
  | some v => exact h v (List.mem_of_getElem? e)
theorem good_numDo (C : Prop) (s : ByteArray) (l : List Int) (hl : ∀ x ∈ l, In63 x) : Good C (numDo s l) := by
  have i0 := in_getD hl 0
  have i1 := in_getD hl 1
  have i2 := in_getD hl 2
  have h8 : Good C (errG 8) := good_err C fun _ => by decide
  unfold numDo
  refine good_ite ?_ ?_
  · unfold oddX; exact good_ite (good_truth C _) h8
  refine good_ite ?_ ?_
  · unfold clampX; exact good_ite h8 (good_num C (by unfold In63 at i0 i1 i2; unfold Is64; omega))
  refine good_ite ?_ ?_
  · unfold factX; exact good_ite h8 (good_wholeX C _ _)
  refine good_ite ?_ ?_
  · unfold lcmX; exact good_ite (good_ite (good_num C ⟨by decide, by decide⟩) (good_lcmGo C _ _)) h8
  refine good_ite ?_ ?_
  · unfold gcdX; exact good_ite (good_wholeX C _ _) h8
  refine good_ite ?_ ?_
  · exact good_numC C (sqrt_pb _)
  refine good_ite ?_ ?_
  · exact good_places C _ fun y => pow_pb _ y
  refine good_ite ?_ ?_
  · unfold quotX; exact good_ite (good_err C fun _ => by decide) (good_wholeX C _ _)
  refine good_ite ?_ ?_
  · exact good_numC C (mod_pb _ _ i1)
  refine good_ite ?_ ?_
  · exact good_numC C (ceil_pb _ _ i1)
  refine good_ite ?_ ?_
  · exact good_numC C (floor2_pb _ _ i1)
  refine good_ite ?_ ?_
  · exact good_ite (good_places C _ fun y => round_pb _ y i0) (good_numC C (round_pb _ _ i0))
  refine good_ite ?_ ?_
  · exact good_ite (good_places C _ fun y => trunc_pb _ y i0) (good_numC C (trunc_pb _ _ i0))
  refine good_ite ?_ ?_
  · exact good_numC C (floor_pb _)
  refine good_ite ?_ ?_
  · unfold signV; refine good_num C ?_; unfold Is64; (repeat' split) <;> omega
  refine good_ite ?_ ?_
  · exact good_num C (by unfold In63 at i0; unfold Is64; omega)
  exact h8
theorem asNum_ne {C : Prop} {v : V} (h : Good C v) (hC : C) : (asNumG v).2 ≠ 1 := by
  unfold asNumG
  rw [if_neg (by rw [h.1]; decide)]
  repeat' split
  all_goals first | exact h.2.1 hC | simp
theorem asTxt_ne {C : Prop} {v : V} (h : Good C v) (hC : C) : (asTxtG v).2 ≠ 1 := by
  unfold asTxtG
  rw [if_neg (by rw [h.1]; decide)]
  repeat' split
  all_goals first | exact h.2.1 hC | simp
theorem asNum_in {C : Prop} {v : V} (h : Good C v) : In63 (asNumG v).1 := by
  unfold asNumG
  rw [if_neg (by rw [h.1]; decide)]
  repeat' split
  all_goals first | exact h.2.2 | exact zero63 | exact ⟨by decide, by decide⟩
theorem good_nums (C : Prop) (s : ByteArray) (vs : List V) (h : ∀ v ∈ vs, Good C v) : Good C (numsVals s vs) := by
  unfold numsVals
  split
  · rename_i v hv
    exact h v (List.mem_of_find?_eq_some hv)
  · split
    · rename_i v hv
      exact good_err C fun hC => asNum_ne (h v (List.mem_of_find?_eq_some hv)) hC
    · exact good_numDo C _ _ fun x hx => by
        obtain ⟨v, hv, rfl⟩ := List.mem_map.1 hx
        exact asNum_in (h v hv)
theorem good_concat (C : Prop) (t : Nat) : ∀ (l : List ByteArray) (a : List UInt8), Good C (concatGo t l a)
  | [], a => good_told C _ _
  | s :: r, a => by
    unfold concatGo
    split
    · exact good_err C fun _ => by decide
    · exact good_concat C t r _
theorem good_subst (C : Prop) (t : Nat) (x y : List UInt8) : ∀ (f : Nat) (l a : List UInt8), Good C (substGo t x y f l a)
  | 0, _, _ => good_err C fun _ => by decide
  | f + 1, l, a => by
    unfold substGo
    split
    · exact good_err C fun _ => by decide
    · split
      · exact good_told C _ _
      · split
        · exact good_err C fun _ => by decide
        · exact good_subst C t x y f _ _
theorem good_wholeT (C : Prop) (n : Int) : Good C (wholeT n) := good_num C (by rw [IntKind.wrap_i64]; unfold Is64; omega)
theorem parse_64 (s : ByteArray) : Is64 (parseX s).1 := by
  have h0 : Is64 0 := ⟨by decide, by decide⟩
  unfold parseX parseL
  repeat' split
  all_goals first | exact h0 | skip
  unfold readN
  repeat' split
  all_goals first | exact h0 | exact (sign_pb _ _).2.to64
theorem good_textDo (C : Prop) (s : ByteArray) (t : Nat) (ss : List ByteArray) (ns : List Int) : Good C (textDo s t ss ns) := by
  have h8 : Good C (errG 8) := good_err C fun _ => by decide
  have h7 : Good C (errG 7) := good_err C fun _ => by decide
  have h6 : Good C (errG 6) := good_err C fun _ => by decide
  have h4 : Good C (errG 4) := good_err C fun _ => by decide
  unfold textDo
  refine good_ite ?_ ?_
  · unfold numTX; exact good_ite (good_num C (parse_64 _)) h4
  refine good_ite ?_ ?_
  · exact good_told C _ _
  refine good_ite ?_ ?_
  · exact good_truth C _
  refine good_ite ?_ ?_
  · unfold charX; exact good_ite h8 (good_told C _ _)
  refine good_ite ?_ ?_
  · unfold ordX; exact good_ite h8 (good_wholeT C _)
  refine good_ite ?_ ?_
  · exact good_concat C _ _ _
  refine good_ite ?_ ?_
  · unfold substX; exact good_ite h8 (good_subst C _ _ _ _ _ _)
  refine good_ite ?_ ?_
  · unfold placeX; exact good_ite h8 (good_ite h6 (good_ite h6 (good_wholeT C _)))
  refine good_ite ?_ ?_
  · unfold reptX; exact good_ite h8 (good_ite (good_told C _ _) (good_ite h7 (good_told C _ _)))
  refine good_ite ?_ ?_
  · exact good_told C _ _
  refine good_ite ?_ ?_
  · exact good_told C _ _
  refine good_ite ?_ ?_
  · exact good_told C _ _
  refine good_ite ?_ ?_
  · unfold midX; exact good_ite h8 (good_told C _ _)
  refine good_ite ?_ ?_
  · unfold rightX; exact good_ite h8 (good_told C _ _)
  refine good_ite ?_ ?_
  · unfold leftX; exact good_ite h8 (good_told C _ _)
  refine good_ite ?_ ?_
  · exact good_wholeT C _
  exact h8
theorem good_textsGo (C : Prop) (s : ByteArray) (t : Nat) (c : ByteArray) : ∀ (vs : List V) (j : Nat) (ss : List ByteArray) (ns : List Int), (∀ v ∈ vs, Good C v) → Good C (textsGo s t c vs j ss ns)
  | [], _, ss, ns, _ => good_textDo C s t ss ns
  | v :: r, j, ss, ns, h => by
    have h0 := h v (by simp)
    have h1 : ∀ u ∈ r, Good C u := fun u hu => h u (List.mem_cons_of_mem _ hu)
    unfold textsGo
    repeat' split
    · exact good_textsGo C s t c r _ _ _ h1
    · exact good_err C fun hC => asNum_ne h0 hC
    · exact good_err C fun _ => by decide
    · exact good_textsGo C s t c r _ _ _ h1
theorem good_texts (C : Prop) (s : ByteArray) (t : Nat) (vs : List V) (h : ∀ v ∈ vs, Good C v) : Good C (textsVals s t vs) := by
  unfold textsVals
  split
  · rename_i v hv
    exact h v (List.mem_of_find?_eq_some hv)
  · split
    · exact good_err C fun _ => by decide
    · exact good_textsGo C s t _ vs 0 [] [] h
theorem asBool_ne {C : Prop} {v : V} (h : Good C v) (hC : C) : (asBoolG v).2 ≠ 1 := asNum_ne h hC
theorem integer_ne {C : Prop} {v : V} (h : Good C v) (hC : C) : (integerG v).2 ≠ 1 := by
  unfold integerG
  repeat' split
  · exact asNum_ne h hC
  · simp
  · simp
theorem good_truths (C : Prop) (fy : Nat → Nat → Bool) (vs : List V) (h : ∀ v ∈ vs, Good C v) : Good C (truthsG fy vs) := by
  unfold truthsG
  split
  · rename_i v hv
    exact h v (List.mem_of_find?_eq_some hv)
  · split
    · rename_i v hv
      exact good_err C fun hC => asBool_ne (h v (List.mem_of_find?_eq_some hv)) hC
    · exact good_truth C _
theorem good_getD {C : Prop} {vs : List V} {d : V} (h : ∀ v ∈ vs, Good C v) (hd : Good C d) (i : Nat) : Good C (vs.getD i d) := by
  rw [List.getD_eq_getElem?_getD]
  cases e : vs[i]? with
  | none => exact hd
  | some v => exact h v (List.mem_of_getElem? e)
theorem good_ownDo (C : Prop) (s : ByteArray) (vs : List V) (h : ∀ v ∈ vs, Good C v) : Good C (ownDo s vs) := by
  have h8 : Good C (errG 8) := good_err C fun _ => by decide
  have hv := good_getD (C := C) (vs := vs) (d := ⟨0, 0, ⟨#[]⟩, false, 0⟩) h (good_zero C) 0
  unfold ownDo
  refine good_ite ?_ ?_
  · exact h8
  refine good_ite ?_ ?_
  · unfold chooseG
    split
    · have h0 := h _ (List.mem_cons_self ..)
      exact good_ite (good_err C fun hC => integer_ne h0 hC) (good_ite (good_getD (fun u hu => h u (List.mem_cons_of_mem _ hu)) h8 _) (good_err C fun _ => by decide))
    · exact h8
  refine good_ite ?_ ?_
  · unfold faultG
    refine good_err C fun hC => ?_
    repeat' split
    · omega
    · decide
    · exact integer_ne hv hC
  refine good_ite ?_ ?_
  · unfold errnoG
    by_cases h4 : (vs.getD 0 ⟨0, 0, ⟨#[]⟩, false, 0⟩).tag = 4
    · rw [if_pos h4]
      have h5 := may_fault hv.1 h4
      exact good_num C (by unfold Is64; omega)
    · rw [if_neg h4]; exact h8
  refine good_ite ?_ ?_
  · unfold typeG; have h5 := may_tag hv.1; exact good_num C (by unfold Is64; omega)
  refine good_ite ?_ ?_
  · exact good_truth C _
  refine good_ite ?_ ?_
  · exact good_truth C _
  refine good_ite ?_ ?_
  · exact good_truth C _
  refine good_ite ?_ ?_
  · exact good_truth C _
  refine good_ite ?_ ?_
  · exact good_truth C _
  refine good_ite ?_ ?_
  · unfold iferrG
    split
    · exact good_ite (h _ (by simp)) (h _ (by simp))
    · exact h8
  refine good_ite ?_ ?_
  · exact good_truths C _ vs h
  refine good_ite ?_ ?_
  · exact good_truths C _ vs h
  refine good_ite ?_ ?_
  · exact good_truths C _ vs h
  refine good_ite ?_ ?_
  · exact good_truths C _ vs h
  refine good_ite ?_ ?_
  · unfold choiceG
    split
    · have h0 := h _ (List.mem_cons_self ..)
      refine good_ite (good_err C fun hC => asBool_ne h0 hC) (good_ite (h _ (by simp)) ?_)
      split
      · exact h _ (by simp)
      · exact good_truth C _
    · exact h8
  exact h8
end Go.Proofs.YtegbhdeaicgpkaaGreatDoor
