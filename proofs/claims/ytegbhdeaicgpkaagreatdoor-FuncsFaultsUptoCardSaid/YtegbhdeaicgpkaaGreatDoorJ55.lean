/-
  Parts of a proof: GoodA, GoodT.
-/
import Derived.Test.YtegbhdeaicgpkaaGreatDoorJ54
import Derived.Test.YtegbhdeaicgpkaaGreatDoorJ47
set_option linter.all false
namespace Go.Proofs.YtegbhdeaicgpkaaGreatDoor
open Go Go.RowKit
theorem good_among {C : Prop} {vs : List V} (h : ∀ v ∈ vs, Good C v) : Good C (amongG vs).2 := by
  unfold amongG
  split
  · rename_i v hv
    exact h v (List.mem_of_find?_eq_some hv)
  · exact good_zero C
theorem among_in {C : Prop} {vs : List V} (h : ∀ v ∈ vs, Good C v) : ∀ x ∈ (amongG vs).1, In63 x := by
  intro x hx
  unfold amongG at hx
  split at hx
  · simp at hx
  · simp only [numsOf, List.mem_map, List.mem_filter] at hx
    obtain ⟨v, ⟨hv, _⟩, rfl⟩ := hx
    exact (h v hv).2.2
theorem good_fit (C : Prop) (S : Int) : Good C (fitG S) := by
  unfold fitG
  by_cases h : S < -9223372036854775808 ∨ 9223372036854775807 < S
  · rw [if_pos h]; exact good_err C fun _ => by decide
  · rw [if_neg h]; exact good_num C (by unfold Is64; omega)
theorem good_prodGo (C : Prop) : ∀ (l : List Int) (p : Int), In63 p → Good C (prodGo p l)
  | [], p, hp => good_num C hp.to64
  | x :: l, p, hp => by
    unfold prodGo
    have h := mul_pb p x
    exact good_ite (good_err C fun _ => h.1) (good_prodGo C l _ h.2)
theorem fold_in (f : Int → Int → Int) (hf : ∀ a b, f a b = a ∨ f a b = b) : ∀ (l : List Int) (a : Int), In63 a → (∀ x ∈ l, In63 x) → In63 (l.foldl f a)
  | [], _, ha, _ => ha
  | x :: l, a, ha, h => by
    refine fold_in f hf l _ ?_ fun y hy => h y (List.mem_cons_of_mem _ hy)
    rcases hf a x with e | e <;> rw [e]
    · exact ha
    · exact h x (by simp)
theorem head_in {l : List Int} (h : ∀ x ∈ l, In63 x) : In63 (l.headD 0) := by
  cases l with
  | nil => exact ⟨by decide, by decide⟩
  | cons x l => exact h x (by simp)
theorem min_in {l : List Int} (h : ∀ x ∈ l, In63 x) : In63 (Lib.minOf l) := fold_in min (fun a b => by omega) l _ (head_in h) h
theorem max_in {l : List Int} (h : ∀ x ∈ l, In63 x) : In63 (Lib.maxOf l) := fold_in max (fun a b => by omega) l _ (head_in h) h
theorem meanN_le {m n : Nat} (hn : 0 < n) (h : m ≤ n * 9223372036854775807) : meanN m n ≤ 9223372036854775807 := by
  have h1 : m / n ≤ 9223372036854775807 := Nat.div_le_of_le_mul h
  unfold meanN
  split
  · rename_i hr
    rcases Nat.lt_or_ge (m / n) 9223372036854775807 with h2 | h2
    · omega
    · exfalso
      have h3 : m / n = 9223372036854775807 := by omega
      have h4 := Nat.div_add_mod m n
      rw [h3] at h4
      have h5 : m % n = 0 := by omega
      omega
  · exact h1
theorem mean_in {l : List Int} (h : ∀ x ∈ l, In63 x) : In63 (meanG l) := by
  have h1 := sum_le l h
  rcases Nat.eq_zero_or_pos l.length with h0 | h0
  · have e : l = [] := List.length_eq_zero_iff.1 h0
    subst e
    exact ⟨by decide, by decide⟩
  · have h2 := meanN_le h0 h1
    unfold meanG In63
    split <;> omega
theorem median_in {l : List Int} (h : ∀ x ∈ l, In63 x) : In63 (medianG l) := by
  have hs : ∀ x ∈ sortG l, In63 x := fun x hx => h x ((sortG_mem l x).1 hx)
  unfold medianG
  split
  · exact in_getD hs _
  · exact mean_in fun x hx => hs x (List.mem_of_mem_drop (List.mem_of_mem_take hx))
theorem good_look {C : Prop} (a : Arg) (p : Int × Int) : ∀ (es : List En) (v : V), (∀ e ∈ es, Good C e.v) → Good C v → Good C (es.foldl (fun o e => if plE a e = p then e.v else o) v)
  | [], _, _, h0 => h0
  | e :: es, v, h, h0 => good_look a p es _ (fun x hx => h x (List.mem_cons_of_mem _ hx)) (good_ite (h e (by simp)) h0)
theorem good_lookG {C : Prop} {a : Arg} {es : List En} (h : ∀ e ∈ es, Good C e.v) (p : Int × Int) : Good C (lookG a es p) := good_look a p es zeroG h (good_zero C)
theorem int_ne {C : Prop} {v : V} (h : Good C v) (hC : C) : (intG v).2 ≠ 1 := by
  unfold intG
  repeat' split
  · exact asNum_ne h hC
  · simp
  · simp
theorem good_joinGo {C : Prop} (tx : Int) (b : ByteArray) : ∀ (vs : List V) (n : Int) (l : List ByteArray), Good C (joinGo tx b n vs l)
  | [], _, _ => good_txt C _
  | v :: r, n, l => by
    unfold joinGo
    exact good_ite (good_joinGo tx b r _ _) (good_ite (good_err C fun _ => by decide) (good_joinGo tx b r _ _))
def AllGood (C : Prop) (pl : List (Arg × List En)) : Prop := ∀ p ∈ pl, Good C p.1.val ∧ ∀ e ∈ p.2, Good C e.v
theorem AllGood.items {C : Prop} {pl : List (Arg × List En)} (h : AllGood C pl) : ∀ v ∈ itemsG pl, Good C v := by
  intro v hv
  obtain ⟨p, hp, hv⟩ := List.mem_flatMap.1 hv
  unfold itemsA at hv
  rcases List.mem_append.1 hv with hv | hv
  · split at hv
    · simp at hv
    · simp only [List.mem_cons, List.not_mem_nil, or_false] at hv
      subst hv
      exact (h p hp).1
  · obtain ⟨e, he, rfl⟩ := List.mem_map.1 hv
    exact (h p hp).2 e he
theorem AllGood.at {C : Prop} {pl : List (Arg × List En)} (h : AllGood C pl) (i : Nat) : Good C (pl.getD i p0A).1.val ∧ ∀ e ∈ (pl.getD i p0A).2, Good C e.v := by
  rw [List.getD_eq_getElem?_getD]
  cases e : pl[i]? with
  | none => exact ⟨good_zero C, fun e he => by simp [p0A] at he⟩
  | some p => exact h p (List.mem_of_getElem? e)
theorem small_area {a : Arg} (h : SmallA a) : -50000000000 ≤ rowsG a * colsG a ∧ rowsG a * colsG a ≤ 50000000000 := by
  have h1 : -200001 ≤ rowsG a ∧ rowsG a ≤ 200001 := by unfold rowsG; unfold SmallA at h; omega
  have h2 : -200001 ≤ colsG a ∧ colsG a ≤ 200001 := by unfold colsG; unfold SmallA at h; omega
  have h3 : (rowsG a * colsG a).natAbs ≤ 200001 * 200001 := by rw [Int.natAbs_mul]; exact Nat.mul_le_mul (by omega) (by omega)
  omega
theorem good_countif (C : Prop) {a : Arg} {es : List En} {v : V} (h : SmallA a) (hn : a.n ≤ 1000000000) (hl : es.length ≤ 1000000000) : Good C (countifG a es v) := by
  have h1 := small_area h
  have h2 : (es.countP fun e => eqB e.v v) ≤ es.length := List.countP_le_length
  unfold countifG
  refine good_num C ?_
  obtain ⟨z, hz⟩ : ∃ z, rowsG a * colsG a = z := ⟨_, rfl⟩
  rw [hz] at h1 ⊢
  unfold Is64
  split <;> omega
theorem scan_lt {a : Arg} {es : List En} {v : V} {i : Nat} (h : scanG a es v = some i) : i < (rowsG a * colsG a).toNat := by
  unfold scanG at h
  exact List.mem_range.1 (List.mem_of_find?_eq_some h)
end Go.Proofs.YtegbhdeaicgpkaaGreatDoor
namespace Go.Proofs.YtegbhdeaicgpkaaGreatDoor
open Go Go.RowKit
theorem argOk_small {a : Arg} {es : List En} (h : argOk a es = true) : SmallA a := by
  by_cases hm : a.many = true
  · exact (rect_small h hm).1
  · unfold argOk at h
    rw [if_neg hm] at h
    simp only [Bool.and_eq_true, decide_eq_true_eq] at h
    unfold SmallA
    omega
theorem small_p0 : SmallA p0A.1 := by unfold SmallA p0A; simp
theorem may_in {v : V} (h : mayG v = true) (h64 : Is64 v.num) : In63 v.num := by
  by_cases h1 : v.tag = 1
  · exact num_63 h h64 h1
  · unfold mayG at h
    simp only [Bool.and_eq_true] at h
    have h2 := h.1.2
    unfold eqB at h2
    have h3 := congrArg V.num (of_decide_eq_true h2)
    unfold bareG at h3
    simp only [if_neg h1] at h3
    rw [h3]
    exact ⟨by decide, by decide⟩
structure GoodIn (C : Prop) (pl : List (Arg × List En)) : Prop where
  g : AllGood C pl
  s : ∀ p ∈ pl, SmallA p.1 ∧ p.1.n ≤ 1000000000 ∧ p.2.length ≤ 1000000000
theorem GoodIn.at {C : Prop} {pl : List (Arg × List En)} (h : GoodIn C pl) (i : Nat) : SmallA (pl.getD i p0A).1 ∧ (pl.getD i p0A).1.n ≤ 1000000000 ∧ (pl.getD i p0A).2.length ≤ 1000000000 := by
  rw [List.getD_eq_getElem?_getD]
  cases e : pl[i]? with
  | none => exact ⟨small_p0, by simp [p0A], by simp [p0A]⟩
  | some p => exact h.s p (List.mem_of_getElem? e)
theorem side64 {x : Int} (h0 : -200001 ≤ x) (h1 : x ≤ 200001) : Is64 (x * 10000) := by unfold Is64; omega
theorem good_some {C : Prop} {vs : List V} {r : Int} (h : ∀ v ∈ vs, Good C v) (hr : In63 r) : Good C (if (amongG vs).2.tag = 4 then (amongG vs).2 else if (amongG vs).1.length = 0 then errG 6 else numG r) :=
  good_ite (good_among h) (good_ite (good_err C fun _ => by decide) (good_num C hr.to64))
theorem good_aggDo {C : Prop} (s : ByteArray) (tx : Int) {pl : List (Arg × List En)} (h : GoodIn C pl) (hT : (itemsG pl).length ≤ 20000000) : Good C (aggDo s tx pl) := by
  have h8 : Good C (errG 8) := good_err C fun _ => by decide
  have h5 : Good C (errG 5) := good_err C fun _ => by decide
  have h6 : Good C (errG 6) := good_err C fun _ => by decide
  have hi := h.g.items
  have g0 := h.g.at 0
  have g1 := h.g.at 1
  have g2 := h.g.at 2
  have s0 := h.at 0
  have s1 := h.at 1
  have s2 := h.at 2
  have hs := among_in hi
  have hr0 : -200001 ≤ rowsG (pl.getD 0 p0A).1 ∧ rowsG (pl.getD 0 p0A).1 ≤ 200001 := by have := s0.1; unfold rowsG; unfold SmallA at this; omega
  have hc0 : -200001 ≤ colsG (pl.getD 0 p0A).1 ∧ colsG (pl.getD 0 p0A).1 ≤ 200001 := by have := s0.1; unfold colsG; unfold SmallA at this; omega
  have hcnt : ∀ f : V → Bool, Good C (numG (((itemsG pl).countP f : Nat) * 10000)) := fun f => by
    have h1 : (itemsG pl).countP f ≤ (itemsG pl).length := List.countP_le_length
    exact good_num C (by unfold Is64; omega)
  unfold aggDo
  refine good_ite (good_num C (side64 hc0.1 hc0.2)) ?_
  refine good_ite (good_num C (side64 hr0.1 hr0.2)) ?_
  refine good_ite ?_ ?_
  · unfold joinG
    refine good_ite (good_among ?_) (good_joinGo _ _ _ _ _)
    exact (show AllGood C (pl.drop 1) from fun p hp => h.g p (List.mem_of_mem_drop hp)).items
  refine good_ite ?_ ?_
  · have hp : ∀ v ∈ itemsG [pl.getD 0 p0A], Good C v := (show AllGood C [pl.getD 0 p0A] from fun p hp => by
      simp only [List.mem_cons, List.not_mem_nil, or_false] at hp
      subst hp
      exact g0).items
    unfold largeG
    exact good_ite (good_err C fun hC => int_ne g1.1 hC) (good_ite (good_among hp) (good_ite h5 (good_ite h5 (good_num C (in_getD (fun x hx => among_in hp x ((sortG_mem _ x).1 hx)) _).to64))))
  refine good_ite ?_ ?_
  · unfold indexG
    exact good_ite (good_err C fun hC => int_ne g1.1 hC) (good_ite (good_err C fun hC => int_ne g2.1 hC) (good_ite h5 (good_ite h5 (good_ite h5 (good_ite h5 (good_lookG g0.2 _))))))
  refine good_ite ?_ ?_
  · unfold lookupG
    refine good_ite h8 (good_ite h8 ?_)
    split
    · exact good_lookG g2.2 _
    · exact h6
  refine good_ite ?_ ?_
  · unfold matchG
    refine good_ite h8 ?_
    split
    · rename_i i hsc
      have h1 := scan_lt hsc
      have h2 := small_area s1.1
      exact good_num C (by unfold Is64; omega)
    · exact h6
  refine good_ite ?_ ?_
  · unfold sumifG
    have hp : ∀ v ∈ sumifL (pl.getD 0 p0A).1 (pl.getD 0 p0A).2 (pl.getD 1 p0A).1.val (pl.getD 2 p0A).1 (pl.getD 2 p0A).2, Good C v := fun v hv => by
      unfold sumifL at hv
      obtain ⟨e, he, rfl⟩ := List.mem_map.1 hv
      exact g2.2 e (List.mem_filter.1 he).1
    exact good_ite h8 (good_ite (good_among hp) (good_fit C _))
  refine good_ite (good_countif C s0.1 s0.2.1 s0.2.2) ?_
  refine good_ite (good_countif C s0.1 s0.2.1 s0.2.2) ?_
  refine good_ite (hcnt _) ?_
  refine good_ite (hcnt _) ?_
  refine good_ite (good_some hi (median_in hs)) ?_
  refine good_ite (good_some hi (mean_in hs)) ?_
  refine good_ite (good_some hi (max_in hs)) ?_
  refine good_ite (good_some hi (min_in hs)) ?_
  refine good_ite (good_ite (good_among hi) (good_prodGo C _ _ ⟨by decide, by decide⟩)) ?_
  exact good_ite (good_ite (good_among hi) (good_fit C _)) h8
def NoCycle (pl : List (Arg × List En)) : Prop := ∀ p ∈ pl, p.1.val.code ≠ 1 ∧ ∀ e ∈ p.2, e.v.code ≠ 1
theorem goodIn_of {w : World} {pl : List (Arg × List En)} {A : Option Addr} {n c : Nat} (h : LawIn w pl A n c) (hok : (List.range (pl.map Prod.fst).length).all (okJ pl) = true) : GoodIn (NoCycle pl) pl := by
  have hk : ∀ p ∈ pl, argOk p.1 p.2 = true := fun p hp => by
    obtain ⟨j, hj⟩ := List.getElem?_of_mem hp
    have h1 := List.all_eq_true.1 hok j (List.mem_range.2 (by rw [List.length_map]; exact (List.getElem?_eq_some_iff.1 hj).1))
    rw [okJ_at hj] at h1
    exact h1
  refine ⟨fun p hp => ⟨⟨argOk_may (hk p hp), fun hC => (hC p hp).1, may_in (argOk_may (hk p hp)) (h.h64 p hp).1⟩, fun e he => ?_⟩, fun p hp => ⟨argOk_small (hk p hp), by have := h.hn9 p hp; omega, by have := (h.hE p hp).1; have := h.hn9 p hp; omega⟩⟩
  have hm : mayG e.v = true := by
    have h1 := hk p hp
    unfold argOk at h1
    by_cases hm : p.1.many = true
    · rw [if_pos hm] at h1
      simp only [Bool.and_eq_true] at h1
      exact (entsGo_may h1.2 e he).1
    · rw [if_neg hm] at h1
      simp only [Bool.and_eq_true, decide_eq_true_eq] at h1
      have h2 := (h.hE p hp).1
      have h3 : p.2 = [] := List.length_eq_zero_iff.1 (by rw [h2]; exact h1.1.2)
      rw [h3] at he
      simp at he
  exact ⟨hm, fun hC => (hC p hp).2 e he, may_in hm ((h.h64 p hp).2 e he)⟩
theorem tabX_no {pl : List (Arg × List En)} (hok : (List.range (pl.map Prod.fst).length).all (okJ pl) = false) (s : ByteArray) (tx : Int) : tabX s pl tx = errG 8 := by
  unfold tabX
  split
  · unfold callX; rw [hok]; rfl
  · split
    · unfold numsCallX; rw [hok]; rfl
    · unfold textsCallX; rw [hok]; simp
    · unfold aggsCallX; rw [hok]; simp
    · rfl
theorem good_tab {w : World} {pl : List (Arg × List En)} {A : Option Addr} {n c : Nat} (h : LawIn w pl A n c) (s : ByteArray) (tx : Int) : Good (NoCycle pl) (tabX s pl tx) := by
  have h8 : Good (NoCycle pl) (errG 8) := good_err _ fun _ => by decide
  cases hok : (List.range (pl.map Prod.fst).length).all (okJ pl) with
  | false => rw [tabX_no hok]; exact h8
  | true =>
    have hg := goodIn_of h hok
    have hv : ∀ v ∈ (pl.map Prod.fst).map Arg.val, Good (NoCycle pl) v := fun v hv => by
      obtain ⟨a, ha, rfl⟩ := List.mem_map.1 hv
      obtain ⟨p, hp, rfl⟩ := List.mem_map.1 ha
      exact (hg.g p hp).1
    unfold tabX
    split
    · unfold callX
      refine good_ite ?_ h8
      exact good_ownDo _ _ _ hv
    · split
      · unfold numsCallX
        exact good_ite (good_ite (good_nums _ _ _ hv) h8) h8
      · unfold textsCallX
        exact good_ite h8 (good_ite (good_ite (good_texts _ _ _ _ hv) h8) h8)
      · unfold aggsCallX
        refine good_ite h8 (good_ite ?_ h8)
        cases htk : takesAgg s ((pl.map Prod.fst).map Arg.many) with
        | false => exact h8
        | true =>
          rw [if_pos rfl]
          unfold aggsVals
          split
          · rename_i v hf
            exact hv v (List.mem_of_find?_eq_some hf)
          · refine good_aggDo s tx hg ?_
            obtain ⟨_, _, _, _, _, _, h16, _⟩ := takesA_len htk
            rw [List.length_map, List.length_map] at h16
            have h1 := items_bound pl fun p hp => by have := (h.hE p hp).1; have := h.hn9 p hp; omega
            omega
      · exact h8
end Go.Proofs.YtegbhdeaicgpkaaGreatDoor
