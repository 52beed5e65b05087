/-
  Parts of a proof: TextsGiv, AggD, AggE, AggF.
-/
import Derived.Test.YtegbhdeaicgpkaaGreatDoorJ34
import Derived.Test.YtegbhdeaicgpkaaGreatDoorJ28
import Derived.Test.YtegbhdeaicgpkaaGreatDoorJ35
import Derived.Test.YtegbhdeaicgpkaaGreatDoorJ17
import Derived.Test.YtegbhdeaicgpkaaGreatDoorJ21
import Derived.Test.YtegbhdeaicgpkaaGreatDoorJ12
set_option linter.all false
namespace Go.Proofs.YtegbhdeaicgpkaaGreatDoor
open Go Go.RowKit
theorem printS_le (x : Int) (h : Is64 x) : (printS x).size ≤ 100 := by
  unfold printS
  by_cases h1 : x = minI
  · rw [if_pos h1]
    decide
  · rw [if_neg h1]
    have hh : (headS x).size ≤ 30 := by
      have h2 := numS_le (x.natAbs / 10000) (by unfold Is64 at h; omega)
      unfold headS
      split
      · rw [ByteArray.size_append]
        have : (⟨#[45]⟩ : ByteArray).size = 1 := rfl
        omega
      · omega
    split
    · omega
    · have h2 := fracS_le (x.natAbs % 10000) (by omega)
      rw [ByteArray.size_append, ByteArray.size_append]
      have : (⟨#[46]⟩ : ByteArray).size = 1 := rfl
      omega
theorem asTxt_size (v : V) (h : Is64 v.num) (hs : v.str.size ≤ 1048576) : (asTxtG v).1.size ≤ 1048576 := by
  unfold asTxtG
  have h0 : (⟨#[]⟩ : ByteArray).size = 0 := rfl
  have h4 : (⟨#[84, 82, 85, 69]⟩ : ByteArray).size = 4 := rfl
  have h5 : (⟨#[70, 65, 76, 83, 69]⟩ : ByteArray).size = 5 := rfl
  have hp := printS_le v.num h
  repeat' split
  all_goals simp only
  all_goals (try split)
  all_goals omega
theorem whole_is64 (x : Int) (h : In63 x) : Is64 (wholeG x).1 := by
  unfold In63 at h
  unfold wholeG
  split
  · exact ⟨by decide, by decide⟩
  · have h1 : x.tdiv 10000 = x / 10000 ∨ x.tdiv 10000 = -((-x) / 10000) := by
      rcases Int.le_total 0 x with h0 | h0
      · exact .inl (Int.tdiv_eq_ediv_of_nonneg h0)
      · right
        rw [show x = -(-x) by omega, Int.neg_tdiv, Int.tdiv_eq_ediv_of_nonneg (show 0 ≤ -x by omega)]
        simp
    unfold Is64
    dsimp only
    rcases h1 with h1 | h1 <;> rw [h1] <;> omega
def textsGo (s : ByteArray) (text : Nat) (c : ByteArray) : List V → Nat → List ByteArray → List Int → V
  | [], _, ss, ns => textDo s text ss ns
  | v :: r, j, ss, ns =>
    if (c.data.toList.getD j 0).toNat = 115 then textsGo s text c r (j + 1) (ss ++ [(asTxtG v).1]) ns
    else if (asNumG v).2 ≠ 0 then errG (asNumG v).2
    else if (wholeG (asNumG v).1).2 = false then errG 8
    else textsGo s text c r (j + 1) ss (ns ++ [(wholeG (asNumG v).1).1])
def textsVals (s : ByteArray) (text : Nat) (vs : List V) : V := match vs.find? isF with
  | some v => v
  | none => match textTab s with
    | none => errG 8
    | some (c, _) => textsGo s text c vs 0 [] []
def textsCallX (s : ByteArray) (al : List Arg) (ok : Nat → Bool) (tx : Int) : V :=
  if tx < 0 ∨ 1024 < tx then errG 8
  else if (List.range al.length).all ok then if takesText s (al.map Arg.many) then textsVals s tx.toNat (al.map Arg.val) else errG 8 else errG 8
theorem drop_at {α : Type} {l : List α} {j : Nat} {a : α} (h : l[j]? = some a) : l.drop j = a :: l.drop (j + 1) := by
  obtain ⟨hj, rfl⟩ := List.getElem?_eq_some_iff.1 h
  exact List.drop_eq_getElem_cons hj
theorem cntK_succ (c : ByteArray) (j : Nat) (b : Bool) (hj : j < c.size) : cntK c (j + 1) b = cntK c j b + (if ((c.data.toList.getD j 0) == 115) == b then 1 else 0) := by
  have hj' : j < c.data.toList.length := by rw [Array.length_toList]; exact hj
  unfold cntK
  rw [List.take_succ_eq_append_getElem hj', List.filter_append, List.length_append, List.getD, List.getElem?_eq_getElem hj']
  congr 1
  simp only [Option.getD_some, List.filter_cons, List.filter_nil]
  split <;> simp_all
theorem textTab_bounds {s c : ByteArray} {x : Int} (h : textTab s = some (c, x)) : 1 ≤ x ∧ c.size ≤ 16 := by
  unfold textTab at h
  by_cases eNUM : (⟨#[78, 85, 77]⟩ : ByteArray) = s
  · rw [if_pos eNUM] at h
    cases h
    exact ⟨by decide, by decide⟩
  rw [if_neg eNUM] at h
  by_cases eREV : (⟨#[82, 69, 86]⟩ : ByteArray) = s
  · rw [if_pos eREV] at h
    cases h
    exact ⟨by decide, by decide⟩
  rw [if_neg eREV] at h
  by_cases eEXACT : (⟨#[69, 88, 65, 67, 84]⟩ : ByteArray) = s
  · rw [if_pos eEXACT] at h
    cases h
    exact ⟨by decide, by decide⟩
  rw [if_neg eEXACT] at h
  by_cases eCHAR : (⟨#[67, 72, 65, 82]⟩ : ByteArray) = s
  · rw [if_pos eCHAR] at h
    cases h
    exact ⟨by decide, by decide⟩
  rw [if_neg eCHAR] at h
  by_cases eORD : (⟨#[79, 82, 68]⟩ : ByteArray) = s
  · rw [if_pos eORD] at h
    cases h
    exact ⟨by decide, by decide⟩
  rw [if_neg eORD] at h
  by_cases eCONCAT : (⟨#[67, 79, 78, 67, 65, 84]⟩ : ByteArray) = s
  · rw [if_pos eCONCAT] at h
    cases h
    exact ⟨by decide, by decide⟩
  rw [if_neg eCONCAT] at h
  by_cases eSUBST : (⟨#[83, 85, 66, 83, 84]⟩ : ByteArray) = s
  · rw [if_pos eSUBST] at h
    cases h
    exact ⟨by decide, by decide⟩
  rw [if_neg eSUBST] at h
  by_cases eFIND : (⟨#[70, 73, 78, 68]⟩ : ByteArray) = s
  · rw [if_pos eFIND] at h
    cases h
    exact ⟨by decide, by decide⟩
  rw [if_neg eFIND] at h
  by_cases eREPT : (⟨#[82, 69, 80, 84]⟩ : ByteArray) = s
  · rw [if_pos eREPT] at h
    cases h
    exact ⟨by decide, by decide⟩
  rw [if_neg eREPT] at h
  by_cases eTRIM : (⟨#[84, 82, 73, 77]⟩ : ByteArray) = s
  · rw [if_pos eTRIM] at h
    cases h
    exact ⟨by decide, by decide⟩
  rw [if_neg eTRIM] at h
  by_cases eLOWER : (⟨#[76, 79, 87, 69, 82]⟩ : ByteArray) = s
  · rw [if_pos eLOWER] at h
    cases h
    exact ⟨by decide, by decide⟩
  rw [if_neg eLOWER] at h
  by_cases eUPPER : (⟨#[85, 80, 80, 69, 82]⟩ : ByteArray) = s
  · rw [if_pos eUPPER] at h
    cases h
    exact ⟨by decide, by decide⟩
  rw [if_neg eUPPER] at h
  by_cases eMID : (⟨#[77, 73, 68]⟩ : ByteArray) = s
  · rw [if_pos eMID] at h
    cases h
    exact ⟨by decide, by decide⟩
  rw [if_neg eMID] at h
  by_cases eRIGHT : (⟨#[82, 73, 71, 72, 84]⟩ : ByteArray) = s
  · rw [if_pos eRIGHT] at h
    cases h
    exact ⟨by decide, by decide⟩
  rw [if_neg eRIGHT] at h
  by_cases eLEFT : (⟨#[76, 69, 70, 84]⟩ : ByteArray) = s
  · rw [if_pos eLEFT] at h
    cases h
    exact ⟨by decide, by decide⟩
  rw [if_neg eLEFT] at h
  by_cases eLEN : (⟨#[76, 69, 78]⟩ : ByteArray) = s
  · rw [if_pos eLEN] at h
    cases h
    exact ⟨by decide, by decide⟩
  rw [if_neg eLEN] at h
  cases h
theorem takesT_len {s : ByteArray} {xs : List Bool} (h : takesText s xs = true) : ∃ c x, textTab s = some (c, x) ∧ between x c.size xs.length = true ∧ 1 ≤ xs.length ∧ xs.length ≤ 16 ∧ xs.length ≤ c.size := by
  unfold takesText at h
  cases e : textTab s with
  | none => rw [e] at h; cases h
  | some p =>
    obtain ⟨c, x⟩ := p
    rw [e] at h
    simp only [Bool.and_eq_true] at h
    have h1 := h.1
    obtain ⟨b1, b2⟩ := textTab_bounds e
    simp only [between, Bool.and_eq_true, decide_eq_true_eq] at h1
    exact ⟨c, x, rfl, h.1, by omega, by omega, by omega⟩
structure GivRel (Wb wr : World) (text : Int) (ss : List ByteArray) (ns : List Int) (sv nv : Value) : Prop where
  bel : Below Wb.heap.size Wb wr
  box : wr.heap[Wb.heap.size]? = some (.cells #[sv, nv, .int .i64 text] 108 (0, 0))
  os : wr.ownsRow Wb.heap.size 9 1 sv ss.length (ss.map Value.string)
  on : wr.ownsRow Wb.heap.size 3 1 nv ns.length (ns.map fun n => Value.int .i64 n)
theorem GivRel.lt {Wb wr : World} {text : Int} {ss : List ByteArray} {ns : List Int} {sv nv : Value} (h : GivRel Wb wr text ss ns sv nv) : Wb.heap.size < wr.heap.size := (Array.getElem?_eq_some_iff.1 h.box).1
theorem GivRel.below {Wb wr w2 : World} {text : Int} {ss : List ByteArray} {ns : List Int} {sv nv : Value} (h : GivRel Wb wr text ss ns sv nv) (hb : Below wr.heap.size wr w2) : GivRel Wb w2 text ss ns sv nv :=
  ⟨h.bel.trans (hb.mono h.bel.size), (hb.block _ h.lt).trans h.box, own_below h.os hb, own_below h.on hb⟩
theorem GivRel.cell {Wb wr : World} {text : Int} {ss : List ByteArray} {ns : List Int} {sv nv : Value} (h : GivRel Wb wr text ss ns sv nv) :
    wr.cell? ⟨Wb.heap.size, 0, none⟩ = some sv ∧ wr.cell? ⟨Wb.heap.size, 1, none⟩ = some nv ∧ wr.cell? ⟨Wb.heap.size, 2, none⟩ = some (.int .i64 text) ∧ ∀ i, wr.frozen? ⟨Wb.heap.size, i, none⟩ = false := by
  refine ⟨?_, ?_, ?_, fun i => ?_⟩
  · rw [Lib.cell_of_heap h.box]; rfl
  · rw [Lib.cell_of_heap h.box]; rfl
  · rw [Lib.cell_of_heap h.box]; rfl
  · exact Lib.frozen_of_heap h.box i
theorem own_ne {w : World} {base e n b T : Nat} {v : Value} {xs : List Value} {cs : Array Value} {fr : Nat × Nat} (h : w.ownsRow base e 1 v n xs) (hb : w.heap[b]? = some (.cells cs T fr)) (hT : T ≠ e) : v.ownBlock ≠ some b := Lib.ownBlock_ne h hb hT
theorem grown_set1 (w : World) (b : Nat) (v : Value) : w.grownBy (w.setCell ⟨b, 1, none⟩ v) (some b) :=
  ⟨rfl, rfl, rfl, by simp, fun k _ hk => heap_setCell_other w ⟨b, 1, none⟩ k v (fun e => hk (by simp [e]))⟩
theorem GivRel.boxS {Wb wr w1 w2 : World} {text : Int} {ss : List ByteArray} {ns : List Int} {sv nv : Value} (h : GivRel Wb wr text ss ns sv nv) (hb : Below wr.heap.size wr w1) (hg : w1.grownBy w2 sv.ownBlock) :
    w2.heap[Wb.heap.size]? = some (.cells #[sv, nv, .int .i64 text] 108 (0, 0)) := by
  have k := h.below hb
  have n1 := own_ne k.os k.box (by decide)
  exact (hg.block _ k.lt (fun e => n1 e.symm)).trans k.box
theorem GivRel.boxN {Wb wr w1 w2 : World} {text : Int} {ss : List ByteArray} {ns : List Int} {sv nv : Value} (h : GivRel Wb wr text ss ns sv nv) (hb : Below wr.heap.size wr w1) (hg : w1.grownBy w2 nv.ownBlock) :
    w2.heap[Wb.heap.size]? = some (.cells #[sv, nv, .int .i64 text] 108 (0, 0)) := by
  have k := h.below hb
  have n1 := own_ne k.on k.box (by decide)
  exact (hg.block _ k.lt (fun e => n1 e.symm)).trans k.box
theorem GivRel.addS {Wb wr w1 w2 : World} {text : Int} {ss : List ByteArray} {ns : List Int} {sv nv sv' : Value} {t : ByteArray} (h : GivRel Wb wr text ss ns sv nv) (hb : Below wr.heap.size wr w1)
    (ho : w2.ownsRow Wb.heap.size 9 1 sv' (ss.length + 1) (ss.map Value.string ++ [.string t])) (hg : w1.grownBy w2 sv.ownBlock) : GivRel Wb (w2.setCell ⟨Wb.heap.size, 0, none⟩ sv') text (ss ++ [t]) ns sv' nv := by
  have k := h.below hb
  have n1 := own_ne k.os k.box (by decide)
  have n2 := own_ne k.on k.box (by decide)
  have b2 : w2.heap[Wb.heap.size]? = some (.cells #[sv, nv, .int .i64 text] 108 (0, 0)) := (hg.block _ k.lt (fun e => n1 e.symm)).trans k.box
  have o2 : w2.ownsRow Wb.heap.size 3 1 nv ns.length (ns.map fun n => Value.int .i64 n) := k.on.kept hg (by
    rcases k.os.2 with ⟨h1, _⟩ | ⟨g, cap, cur, h1, _, hgb, _⟩
    · rcases k.on.2 with ⟨h2, _⟩ | ⟨g2, cap2, cur2, h2, _, hgb2, _⟩
      · exact .inl (by rw [h2]; rfl)
      · exact .inr (by rw [h1, h2]; simp [Value.ownBlock])
    · rcases k.on.2 with ⟨h2, _⟩ | ⟨g2, cap2, cur2, h2, _, hgb2, _⟩
      · exact .inl (by rw [h2]; rfl)
      · refine .inr ?_
        rw [h1, h2]
        simp only [Value.ownBlock]
        intro e
        injection e with e
        subst e
        rw [hgb] at hgb2
        injection hgb2 with hgb2
        injection hgb2 with _ hh _
        exact absurd hh (by decide))
  have n3 := own_ne ho b2 (by decide)
  have n4 := own_ne o2 b2 (by decide)
  refine ⟨(k.bel.grown hg k.bel.size (own_block_ge k.os)).setCell (p := ⟨Wb.heap.size, 0, none⟩) (Nat.le_refl _) sv', ?_, ?_, ?_⟩
  · obtain ⟨hlt, hk⟩ := Array.getElem?_eq_some_iff.1 b2
    show (w2.heap.modify Wb.heap.size _)[Wb.heap.size]? = _
    rw [Array.getElem?_eq_getElem (by rw [Array.size_modify]; exact hlt), Array.getElem_modify_self, hk]
    rfl
  · have := ho.kept (grownBy_setCell' w2 Wb.heap.size sv') (.inr n3)
    simpa using this
  · exact o2.kept (grownBy_setCell' w2 Wb.heap.size sv') (.inr n4)
theorem GivRel.addN {Wb wr w1 w2 : World} {text : Int} {ss : List ByteArray} {ns : List Int} {sv nv nv' : Value} {t : Int} (h : GivRel Wb wr text ss ns sv nv) (hb : Below wr.heap.size wr w1)
    (ho : w2.ownsRow Wb.heap.size 3 1 nv' (ns.length + 1) ((ns.map fun n => Value.int .i64 n) ++ [.int .i64 t])) (hg : w1.grownBy w2 nv.ownBlock) : GivRel Wb (w2.setCell ⟨Wb.heap.size, 1, none⟩ nv') text ss (ns ++ [t]) sv nv' := by
  have k := h.below hb
  have n1 := own_ne k.on k.box (by decide)
  have b2 : w2.heap[Wb.heap.size]? = some (.cells #[sv, nv, .int .i64 text] 108 (0, 0)) := (hg.block _ k.lt (fun e => n1 e.symm)).trans k.box
  have o2 : w2.ownsRow Wb.heap.size 9 1 sv ss.length (ss.map Value.string) := k.os.kept hg (by
    rcases k.on.2 with ⟨h1, _⟩ | ⟨g, cap, cur, h1, _, hgb, _⟩
    · rcases k.os.2 with ⟨h2, _⟩ | ⟨g2, cap2, cur2, h2, _, hgb2, _⟩
      · exact .inl (by rw [h2]; rfl)
      · exact .inr (by rw [h1, h2]; simp [Value.ownBlock])
    · rcases k.os.2 with ⟨h2, _⟩ | ⟨g2, cap2, cur2, h2, _, hgb2, _⟩
      · exact .inl (by rw [h2]; rfl)
      · refine .inr ?_
        rw [h1, h2]
        simp only [Value.ownBlock]
        intro e
        injection e with e
        subst e
        rw [hgb] at hgb2
        injection hgb2 with hgb2
        injection hgb2 with _ hh _
        exact absurd hh (by decide))
  have n3 := own_ne ho b2 (by decide)
  have n4 := own_ne o2 b2 (by decide)
  refine ⟨(k.bel.grown hg k.bel.size (own_block_ge k.on)).setCell (p := ⟨Wb.heap.size, 1, none⟩) (Nat.le_refl _) nv', ?_, ?_, ?_⟩
  · obtain ⟨hlt, hk⟩ := Array.getElem?_eq_some_iff.1 b2
    show (w2.heap.modify Wb.heap.size _)[Wb.heap.size]? = _
    rw [Array.getElem?_eq_getElem (by rw [Array.size_modify]; exact hlt), Array.getElem_modify_self, hk]
    rfl
  · exact o2.kept (grown_set1 w2 _ _) (.inr n4)
  · have := ho.kept (grown_set1 w2 Wb.heap.size nv') (.inr n3)
    simpa using this
theorem strRow_of {w : World} {base : Nat} {v : Value} {ss : List ByteArray} (h : w.ownsRow base 9 1 v ss.length (ss.map Value.string)) : StrRow w v ss := by
  obtain ⟨A, c, rfl⟩ := own_sliceN h
  refine ⟨A, c, rfl, fun h0 => ?_⟩
  obtain ⟨g, c', e, _, hg, hx⟩ := own_form h h0
  cases e
  exact ⟨g, rfl, hg, fun j s hj => hx j _ (by simp [hj])⟩
theorem intRow_of {w : World} {base : Nat} {v : Value} {ns : List Int} (h : w.ownsRow base 3 1 v ns.length (ns.map fun n => Value.int .i64 n)) : IntRow w v ns := by
  obtain ⟨A, c, rfl⟩ := own_sliceN h
  refine ⟨A, c, rfl, fun h0 => ?_⟩
  obtain ⟨g, c', e, _, hg, hx⟩ := own_form h h0
  cases e
  exact ⟨g, rfl, hg, fun j s hj => hx j _ (by simp [hj])⟩
end Go.Proofs.YtegbhdeaicgpkaaGreatDoor
namespace Go.Proofs.YtegbhdeaicgpkaaGreatDoor
open Go Go.RowKit
theorem wr64 {n : Int} (h0 : -9223372036854775808 ≤ n) (h1 : n ≤ 9223372036854775807) : wrap64 n = n := by unfold wrap64; omega
def fitG (S : Int) : V := if S < -9223372036854775808 ∨ 9223372036854775807 < S then errG 2 else numG S
def rowsG (a : Arg) : Int := a.bottom - a.top + 1
def colsG (a : Arg) : Int := a.right - a.left + 1
def SmallA (a : Arg) : Prop := (-100000 ≤ a.top ∧ a.top ≤ 100000) ∧ (-100000 ≤ a.left ∧ a.left ≤ 100000) ∧ (-100000 ≤ a.bottom ∧ a.bottom ≤ 100000) ∧ (-100000 ≤ a.right ∧ a.right ≤ 100000)
def alikeG (a b : Arg) : Bool := (rowsG a == rowsG b) && (colsG a == colsG b)
def intG (v : V) : Int × Int := if (asNumG v).2 ≠ 0 then (0, (asNumG v).2) else if (wholeG (asNumG v).1).2 = false then (0, 8) else ((wholeG (asNumG v).1).1, 0)
def prodGo : Int → List Int → V
  | p, [] => numG p
  | p, x :: l => if (mulX p x).2 ≠ 0 then errG (mulX p x).2 else prodGo (mulX p x).1 l
theorem mul64 (p x : Int) : Is64 (mulX p x).1 := by
  unfold Is64 mulX signX
  repeat' split
  all_goals simp only
  all_goals omega
theorem aggs_fit (S : Int) (w : World) : Calls Tryz.prog 105 #[.agg #[.int .i64 (S / 18446744073709551616), .int .u64 (S % 18446744073709551616)]] w fun e w' => e = .returned (Value.agg #[Value.int .i64 (fitG S).tag, Value.int .i64 (fitG S).num, Value.string (fitG S).str, Value.bool (fitG S).is, Value.int .i64 (fitG S).code]) ∧ Below w.heap.size w w' := by
  by_cases h : S < -9223372036854775808 ∨ 9223372036854775807 < S
  · have hq : (S / 18446744073709551616 != wrap64 (S % 18446744073709551616) / 9223372036854775808) = true := by
      simp only [bne_iff_ne, ne_eq]
      unfold wrap64
      omega
    unfold fitG
    rw [if_pos h]
    clear h
    go_enter Tryz.func105, Tryz.ntmps105
    go_wp2_with (first | (go_at_call 27; refine (value_Err _ _).mono ?_; rintro e w3 ⟨rfl, hb⟩; obtain ⟨l3, q3, rfl⟩ := more_of_below hb; clear hb))
    all_goals go_returns
    all_goals exact ⟨rfl, (by (with_reducible repeat' (first | exact .refl _ _ | assumption | refine bmP ?_ ?_ | refine baP ?_ _ ?_ | refine .drew ?_ | refine .setCell ?_ ?_ _ | refine bdP ?_ _)) <;> go_size)⟩
  · have hq : (S / 18446744073709551616 != wrap64 (S % 18446744073709551616) / 9223372036854775808) = false := by
      rw [bne_eq_false_iff_eq]
      unfold wrap64
      omega
    have hw : wrap64 (S % 18446744073709551616) = S := by unfold wrap64; omega
    unfold fitG
    rw [if_neg h]
    rw [hw] at hq
    clear h
    go_enter Tryz.func105, Tryz.ntmps105
    go_wp2_with (first | (go_at_call 56; refine (value_Num _ _).mono ?_; rintro e w3 ⟨rfl, hb⟩; obtain ⟨l3, q3, rfl⟩ := more_of_below hb; clear hb))
    all_goals go_returns
    all_goals exact ⟨rfl, (by (with_reducible repeat' (first | exact .refl _ _ | assumption | refine bmP ?_ ?_ | refine baP ?_ _ ?_ | refine .drew ?_ | refine .setCell ?_ ?_ _ | refine bdP ?_ _)) <;> go_size)⟩
theorem aggs_whole (n : Int) (h0 : -900000000000000 ≤ n) (h1 : n ≤ 900000000000000) (w : World) : Calls Tryz.prog 125 #[.int .i64 n] w fun e w' => e = .returned (Value.agg #[Value.int .i64 (numG (n * 10000)).tag, Value.int .i64 (numG (n * 10000)).num, Value.string (numG (n * 10000)).str, Value.bool (numG (n * 10000)).is, Value.int .i64 (numG (n * 10000)).code]) ∧ Below w.heap.size w w' := by
  have hw : wrap64 (n * 10000) = n * 10000 := wr64 (by omega) (by omega)
  clear h0 h1
  go_enter Tryz.func125, Tryz.ntmps125
  go_wp2_with (first | (go_at_call 56; refine (value_Num _ _).mono ?_; rintro e w3 ⟨rfl, hb⟩; obtain ⟨l3, q3, rfl⟩ := more_of_below hb; clear hb))
  all_goals go_returns
  all_goals exact ⟨rfl, (by (with_reducible repeat' (first | exact .refl _ _ | assumption | refine bmP ?_ ?_ | refine baP ?_ _ ?_ | refine .drew ?_ | refine .setCell ?_ ?_ _ | refine bdP ?_ _)) <;> go_size)⟩
theorem aggs_rows (a : Arg) (h : SmallA a) (w : World) : Calls Tryz.prog 126 #[a.agg] w fun e w' => e = .returned (.int .i64 (rowsG a)) ∧ Below w.heap.size w w' := by
  unfold SmallA at h
  have e1 : wrap64 (a.bottom - a.top) = a.bottom - a.top := wr64 (by omega) (by omega)
  have e2 : wrap64 (a.bottom - a.top + 1) = a.bottom - a.top + 1 := wr64 (by omega) (by omega)
  clear h
  unfold Arg.agg
  go_enter Tryz.func126, Tryz.ntmps126
  go_wp2
  all_goals go_returns
  all_goals exact ⟨congrArg (fun z => Ending.returned (Value.int .i64 z)) (show wrap64 (a.bottom - a.top + 1) = rowsG a by rw [e2]; rfl), (by (with_reducible repeat' (first | exact .refl _ _ | assumption | refine bmP ?_ ?_ | refine baP ?_ _ ?_ | refine .drew ?_ | refine .setCell ?_ ?_ _ | refine bdP ?_ _)) <;> go_size)⟩
theorem aggs_cols (a : Arg) (h : SmallA a) (w : World) : Calls Tryz.prog 128 #[a.agg] w fun e w' => e = .returned (.int .i64 (colsG a)) ∧ Below w.heap.size w w' := by
  unfold SmallA at h
  have e1 : wrap64 (a.right - a.left) = a.right - a.left := wr64 (by omega) (by omega)
  have e2 : wrap64 (a.right - a.left + 1) = a.right - a.left + 1 := wr64 (by omega) (by omega)
  clear h
  unfold Arg.agg
  go_enter Tryz.func128, Tryz.ntmps128
  go_wp2
  all_goals go_returns
  all_goals exact ⟨congrArg (fun z => Ending.returned (Value.int .i64 z)) (show wrap64 (a.right - a.left + 1) = colsG a by rw [e2]; rfl), (by (with_reducible repeat' (first | exact .refl _ _ | assumption | refine bmP ?_ ?_ | refine baP ?_ _ ?_ | refine .drew ?_ | refine .setCell ?_ ?_ _ | refine bdP ?_ _)) <;> go_size)⟩
theorem aggs_isN (v : V) (w : World) : Calls Tryz.prog 114 #[(Value.agg #[Value.int .i64 v.tag, Value.int .i64 v.num, Value.string v.str, Value.bool v.is, Value.int .i64 v.code])] w fun e w' => e = .returned (.bool (v.tag == 1)) ∧ Below w.heap.size w w' := by
  go_enter Tryz.func114, Tryz.ntmps114
  go_wp2
  all_goals go_returns
  all_goals exact ⟨rfl, (by (with_reducible repeat' (first | exact .refl _ _ | assumption | refine bmP ?_ ?_ | refine baP ?_ _ ?_ | refine .drew ?_ | refine .setCell ?_ ?_ _ | refine bdP ?_ _)) <;> go_size)⟩
theorem aggs_isA (v : V) (w : World) : Calls Tryz.prog 115 #[(Value.agg #[Value.int .i64 v.tag, Value.int .i64 v.num, Value.string v.str, Value.bool v.is, Value.int .i64 v.code])] w fun e w' => e = .returned (.bool (v.tag != 0)) ∧ Below w.heap.size w w' := by
  go_enter Tryz.func115, Tryz.ntmps115
  go_wp2
  all_goals go_returns
  all_goals exact ⟨rfl, (by (with_reducible repeat' (first | exact .refl _ _ | assumption | refine bmP ?_ ?_ | refine baP ?_ _ ?_ | refine .drew ?_ | refine .setCell ?_ ?_ _ | refine bdP ?_ _)) <;> go_size)⟩
theorem aggs_integer (v : V) (h : Is64 v.num) (w : World) : Calls Tryz.prog 192 #[(Value.agg #[Value.int .i64 v.tag, Value.int .i64 v.num, Value.string v.str, Value.bool v.is, Value.int .i64 v.code])] w fun e w' => e = .returned (.tuple #[.int .i64 (intG v).1, .int .i64 (intG v).2]) ∧ Below w.heap.size w w' := by
  have HA63 := Lib.hid (asNum_63 v h)
  obtain ⟨x0, hx0⟩ : ∃ x0, (asNumG v).1 = x0 := ⟨_, rfl⟩
  obtain ⟨cd, hcd⟩ : ∃ cd, (asNumG v).2 = cd := ⟨_, rfl⟩
  have HNR := Lib.hid (fun W => (show Calls Tryz.prog 31 #[(Value.agg #[Value.int .i64 v.tag, Value.int .i64 v.num, Value.string v.str, Value.bool v.is, Value.int .i64 v.code])] W fun e w' => e = .returned (.tuple #[.int .i64 x0, .int .i64 cd]) ∧ Below W.heap.size W w' by have := value_AsNumber v W; rw [hx0, hcd] at this; exact this))
  unfold intG
  rw [hx0, hcd]
  rw [hx0] at HA63
  clear hx0 hcd h
  by_cases hc0 : cd = 0
  · subst hc0
    rw [if_neg (by simp)]
    obtain ⟨y0, hy0⟩ : ∃ y0, (wholeG x0).1 = y0 := ⟨_, rfl⟩
    obtain ⟨k0, hk0⟩ : ∃ k0, (wholeG x0).2 = k0 := ⟨_, rfl⟩
    rw [hy0, hk0]
    have HWR := Lib.hid (fun W => (show Calls Tryz.prog 36 #[.int .i64 x0] W fun e w' => e = .returned (.tuple #[.int .i64 y0, .bool k0]) ∧ W = w' by have := dec_Whole x0 (by have := HA63.out; unfold In63 at this; omega) (by have := HA63.out; unfold In63 at this; omega) W; rw [hy0, hk0] at this; exact this))
    clear hy0 hk0
    cases k0
    all_goals go_enter Tryz.func192, Tryz.ntmps192
    all_goals go_wp2_with (first | (go_at_call 31; refine (HNR.out _).mono ?_; rintro e w2 ⟨rfl, hb⟩; obtain ⟨l2, q2, rfl⟩ := more_of_below hb; clear hb) | (go_at_call 36; refine (HWR.out _).mono ?_; rintro e w4 ⟨rfl, hb⟩; subst hb))
    all_goals go_returns
    all_goals exact ⟨rfl, (by (with_reducible repeat' (first | exact .refl _ _ | assumption | refine bmP ?_ ?_ | refine baP ?_ _ ?_ | refine .drew ?_ | refine .setCell ?_ ?_ _ | refine bdP ?_ _)) <;> go_size)⟩
  · rw [if_pos hc0]
    have hcd' : (cd != 0) = true := by simpa using hc0
    clear hc0
    go_enter Tryz.func192, Tryz.ntmps192
    go_wp2_with (first | (go_at_call 31; refine (HNR.out _).mono ?_; rintro e w2 ⟨rfl, hb⟩; obtain ⟨l2, q2, rfl⟩ := more_of_below hb; clear hb))
    all_goals go_returns
    all_goals exact ⟨rfl, (by (with_reducible repeat' (first | exact .refl _ _ | assumption | refine bmP ?_ ?_ | refine baP ?_ _ ?_ | refine .drew ?_ | refine .setCell ?_ ?_ _ | refine bdP ?_ _)) <;> go_size)⟩
set_option maxRecDepth 100000 in
theorem aggs_alike (a b : Arg) (ha : SmallA a) (hb : SmallA b) (w : World) : Calls Tryz.prog 190 #[a.agg, b.agg] w fun e w' => e = .returned (.bool (alikeG a b)) ∧ Below w.heap.size w w' := by
  have HRA := Lib.hid (aggs_rows a ha)
  have HRB := Lib.hid (aggs_rows b hb)
  have HCA := Lib.hid (aggs_cols a ha)
  have HCB := Lib.hid (aggs_cols b hb)
  unfold alikeG
  obtain ⟨ra, hra⟩ : ∃ ra, rowsG a = ra := ⟨_, rfl⟩
  obtain ⟨rb, hrb⟩ : ∃ rb, rowsG b = rb := ⟨_, rfl⟩
  obtain ⟨ca, hca⟩ : ∃ ca, colsG a = ca := ⟨_, rfl⟩
  obtain ⟨cb, hcb⟩ : ∃ cb, colsG b = cb := ⟨_, rfl⟩
  rw [hra] at HRA; rw [hrb] at HRB; rw [hca] at HCA; rw [hcb] at HCB
  rw [hra, hrb, hca, hcb]
  clear hra hrb hca hcb ha hb
  unfold Arg.agg at *
  cases hz : (ra == rb)
  all_goals go_enter Tryz.func190, Tryz.ntmps190
  all_goals go_wp2
  all_goals (refine wp_region_quiet_more (by kernel_rfl) (by kernel_rfl) ?_; (repeat (go_big_quiet_step (first | (go_at_call 126; first | with_reducible exact Calls.more_of (HRA.out _) | with_reducible exact Calls.more_of (HRB.out _)) | (go_at_call 128; first | with_reducible exact Calls.more_of (HCA.out _) | with_reducible exact Calls.more_of (HCB.out _))))); refine wpQuiet_nil ?_; intro _ hw1; obtain ⟨⟨lq, nq⟩, hw2⟩ := hw1; subst hw2)
  all_goals go_wp2
  all_goals go_returns
  all_goals exact ⟨by simp, (by (with_reducible repeat' (first | exact .refl _ _ | assumption | refine bmP ?_ ?_ | refine baP ?_ _ ?_ | refine .drew ?_ | refine .setCell ?_ ?_ _ | refine bdP ?_ _)) <;> go_size)⟩
set_option maxRecDepth 100000 in
set_option maxHeartbeats 4000000 in
theorem aggs_prod (l : List Int) (A : Option Addr) (n c B : Nat) (w : World) (hr : Reads w B 1 A n (I l)) (hm : n ≤ 1000000000000) (h64 : ∀ x ∈ l, Is64 x) :
    Calls Tryz.prog 107 #[.slice A n c] w fun e w' => e = .returned (Value.agg #[Value.int .i64 (prodGo 10000 l).tag, Value.int .i64 (prodGo 10000 l).num, Value.string (prodGo 10000 l).str, Value.bool (prodGo 10000 l).is, Value.int .i64 (prodGo 10000 l).code]) ∧ Below w.heap.size w w' := by
  have hlen : l.length = n := by have := hr.1; simp [I] at this; omega
  obtain ⟨R, hR⟩ : ∃ R, prodGo 10000 l = R := ⟨_, rfl⟩
  rw [hR]
  have HRX := Lib.hid hR
  have HR := Lib.hid hr
  have H64 := Lib.hid h64
  clear hr h64 hR
  go_enter Tryz.func107, Tryz.ntmps107
  go_wp2
  go_loopw [10, 3] (fun t v wr => ∃ j : Nat, ∃ p : Int, j ≤ n ∧ t = .int .i64 j ∧ v = .int .i64 p ∧ Is64 p ∧ prodGo p (l.drop j) = R ∧ Below (w.alloc zeroV).heap.size (w.alloc zeroV) wr) (fun t _ _ => n - (intOf t).toNat)
  case atStart => exact ⟨0, 10000, Nat.zero_le _, rfl, rfl, ⟨by decide, by decide⟩, HRX.out, Below.refl _ _⟩
  case round =>
    obtain ⟨j, p, hj, rfl, rfl, hp, hgo, hB⟩ := hrel
    have hb2 : Below w.heap.size w wr := (show Below w.heap.size w (w.alloc zeroV) from (by (with_reducible repeat' (first | exact .refl _ _ | assumption | refine bmP ?_ ?_ | refine baP ?_ _ ?_ | refine .drew ?_ | refine .setCell ?_ ?_ _ | refine bdP ?_ _)) <;> go_size)).trans (hB.mono (by simp))
    have HB := Lib.hid hB
    have HB2 := Lib.hid hb2
    have HP := Lib.hid hp
    clear hB hb2 hp
    by_cases hlt : j < n
    · obtain ⟨x, hx⟩ : ∃ x, l[j]? = some x := ⟨_, List.getElem?_eq_getElem (show j < l.length by omega)⟩
      obtain ⟨bk, off, rfl, _, hc⟩ := HR.out.2 (by omega)
      have h1 := hc j (.int .i64 x) (by simp [I, hx])
      have c0 : wr.cell? ⟨bk, off + j, none⟩ = some (.int .i64 x) := (HB2.out.cell (p := ⟨bk, _, none⟩) (World.block_lt_of_cell? w _ h1)).trans h1
      have hbr := World.block_lt_of_cell? wr _ c0
      have hx64 := H64.out x (List.mem_of_getElem? hx)
      have HM := Lib.hid (fun W => dec_Mul p x HP.out hx64 W)
      have HMF := Lib.hid (mul64 p x)
      rw [drop_at hx] at hgo
      unfold prodGo at hgo
      obtain ⟨q, hq⟩ : ∃ q, (mulX p x).1 = q := ⟨_, rfl⟩
      obtain ⟨cd, hcd⟩ : ∃ cd, (mulX p x).2 = cd := ⟨_, rfl⟩
      rw [hq, hcd] at HM hgo
      rw [hq] at HMF
      have H1 := Lib.hid h1
      clear hq hcd hx hc h1 hx64
      by_cases hc0 : cd = 0
      · subst hc0
        rw [if_neg (by simp)] at hgo
        have HGO := Lib.hid hgo
        clear hgo
        go_wp2_with (first | (go_at_call 183; refine (HM.out _).mono ?_; rintro e w2 ⟨rfl, hb⟩; obtain ⟨l2, q2, rfl⟩ := more_of_below hb; clear hb))
        go_roundw
        case rel => exact ⟨j + 1, q, by omega, by go_num, rfl, HMF.out, HGO.out, HB.out.trans ((show Below wr.heap.size wr _ from (by (with_reducible repeat' (first | exact .refl _ _ | assumption | refine bmP ?_ ?_ | refine baP ?_ _ ?_ | refine .drew ?_ | refine .setCell ?_ ?_ _ | refine bdP ?_ _)) <;> go_size)).mono HB.out.size)⟩
        case measure => simp [intOf]; omega
      · rw [if_pos hc0] at hgo
        have hcd' : (cd != 0) = true := by simpa using hc0
        have HRR := Lib.hid hgo.symm
        obtain ⟨l0, q0, hwe⟩ := more_of_below HB.out
        subst hwe
        clear hgo hc0 c0 hbr
        unfold zeroV at *
        have c0 := H1.out
        have hbr := World.block_lt_of_cell? w _ c0
        go_wp2_with (first | (go_at_call 183; refine (HM.out _).mono ?_; rintro e w2 ⟨rfl, hb⟩; obtain ⟨l2, q2, rfl⟩ := more_of_below hb; clear hb) | (go_at_call 27; refine (value_Err _ _).mono ?_; rintro e w3 ⟨rfl, hb⟩; obtain ⟨l3, q3, rfl⟩ := more_of_below hb; clear hb))
        all_goals go_returns
        all_goals exact ⟨by rw [HRR.out], (by (with_reducible repeat' (first | exact .refl _ _ | assumption | refine bmP ?_ ?_ | refine baP ?_ _ ?_ | refine .drew ?_ | refine .setCell ?_ ?_ _ | refine bdP ?_ _)) <;> go_size)⟩
    · obtain rfl : j = n := by omega
      rw [List.drop_of_length_le (by omega)] at hgo
      have HRR := Lib.hid (show R = numG p from hgo.symm)
      obtain ⟨l0, q0, hwe⟩ := more_of_below HB.out
      subst hwe
      clear hgo
      unfold zeroV at *
      go_wp2_with (first | (go_at_call 56; refine (value_Num _ _).mono ?_; rintro e w3 ⟨rfl, hb⟩; obtain ⟨l3, q3, rfl⟩ := more_of_below hb; clear hb))
      all_goals go_returns
      all_goals exact ⟨by rw [HRR.out], (by (with_reducible repeat' (first | exact .refl _ _ | assumption | refine bmP ?_ ?_ | refine baP ?_ _ ?_ | refine .drew ?_ | refine .setCell ?_ ?_ _ | refine bdP ?_ _)) <;> go_size)⟩
end Go.Proofs.YtegbhdeaicgpkaaGreatDoor
namespace Go.Proofs.YtegbhdeaicgpkaaGreatDoor
open Go Go.RowKit
def ren_B : Go.Shelf.Ren := ⟨fun _ => 185, fun _ => 157, fun k => k⟩
theorem lays_B : Go.Proofs.Lays7.n26 Tryz.prog ren_B := {
  mixed := by kernel_rfl
  f26 := by kernel_rfl
  t22 := by kernel_rfl
  a22 := fun w => by kernel_rfl
  z22 := fun w => by kernel_rfl
  v22 := fun w => by kernel_rfl
  i22 := by kernel_rfl }
theorem run_Sub64 (y : Nat) (w : World) : (callFunc 185 #[.int .u64 0, .int .u64 y, .int .u64 0]).run Tryz.prog w =
      .ok (.value (.tuple #[.int .u64 (((0 + 18446744073709551616 - y - 0) % 18446744073709551616 : Nat) : Int), .int .u64 ((if 0 < y + 0 then 1 else 0 : Nat) : Int)])) w :=
  Any7.bits_Sub64 lays_B 0 y 0 (by decide) w
theorem div64_any (hi lo y : Nat) (h : hi < y) (hl : lo < 18446744073709551616) (hy : y < 18446744073709551616) (w : World) : Calls Tryz.prog 186 #[.int .u64 hi, .int .u64 lo, .int .u64 y] w fun e w' => e = .returned (.tuple #[.int .u64 (((hi * 18446744073709551616 + lo) / y : Nat) : Int), .int .u64 (((hi * 18446744073709551616 + lo) % y : Nat) : Int)]) ∧ Below w.heap.size w w' := by
  by_cases h0 : hi = 0
  · subst h0
    simp only [Nat.zero_mul, Nat.zero_add]
    exact div64_zero lo y h hl hy w
  · exact bits_Div64 hi lo y (by omega) h hl hy w
theorem neg_words {M y hi lo : Nat} {H : Int} (h0 : 0 < M) (hH : H = -(M : Int) / 18446744073709551616) (hy : (y : Int) = -(M : Int) % 18446744073709551616) (hhi : M / 18446744073709551616 = hi) (hlo : M % 18446744073709551616 = lo) :
    H < 0 ∧ (0 + 18446744073709551616 - y - 0) % 18446744073709551616 = lo ∧ (0 < y → -H - 1 = hi) ∧ (y = 0 → -H = hi) := by
  refine ⟨by omega, by omega, fun h => by omega, fun h => by omega⟩
theorem pos_words {M y hi lo : Nat} {H : Int} (hH : H = (M : Int) / 18446744073709551616) (hy : (y : Int) = (M : Int) % 18446744073709551616) (hhi : M / 18446744073709551616 = hi) (hlo : M % 18446744073709551616 = lo) :
    H = hi ∧ y = lo := by
  omega
theorem wu64 {n : Int} (h0 : 0 ≤ n) (h1 : n ≤ 18446744073709551615) : IntKind.u64.wrap n = n := by
  show n % 18446744073709551616 = n
  omega
theorem wrn (q : Nat) (h : q ≤ 9223372036854775807) : wrap64 (-(q : Int)) = -(q : Int) := by unfold wrap64; omega
theorem wrn1 (q : Nat) (h : q + 1 ≤ 9223372036854775807) : wrap64 (-((q : Int) + 1)) = -((q : Int) + 1) := by unfold wrap64; omega
theorem wrq (q : Nat) (h : q ≤ 9223372036854775807) : wrap64 (q : Int) = (q : Int) := by unfold wrap64; omega
theorem wrq1 (q : Nat) (h : q + 1 ≤ 9223372036854775807) : wrap64 ((q : Int) + 1) = (q : Int) + 1 := by unfold wrap64; omega
theorem wuq1 (q : Nat) (h : q + 1 ≤ 9223372036854775807) : IntKind.u64.wrap ((q : Int) + 1) = (q : Int) + 1 := wu64 (by omega) (by omega)
def meanN (m n : Nat) : Nat := if n - m % n ≤ m % n then m / n + 1 else m / n
def meanG (l : List Int) : Int := if l.sum < 0 then -(meanN l.sum.natAbs l.length : Int) else meanN l.sum.natAbs l.length
theorem sum_le (l : List Int) (h : ∀ x ∈ l, In63 x) : l.sum.natAbs ≤ l.length * 9223372036854775807 := by
  induction l with
  | nil => simp
  | cons x l ih =>
    have h1 := ih (fun y hy => h y (List.mem_cons_of_mem _ hy))
    have h2 := h x (by simp)
    unfold In63 at h2
    rw [List.sum_cons, List.length_cons]
    omega
structure MeanF (M n : Nat) (hi lo q r : Nat) : Prop where
  hhi : M / 18446744073709551616 = hi
  hlo : M % 18446744073709551616 = lo
  lt : hi < n
  ll : lo < 18446744073709551616
  hq : (hi * 18446744073709551616 + lo) / n = q
  hr : (hi * 18446744073709551616 + lo) % n = r
  rn : r < n
  ql : q ≤ 9223372036854775807
  up : n - r ≤ r → q + 1 ≤ 9223372036854775807
  mn : meanN M n = if n - r ≤ r then q + 1 else q
theorem mean_facts {M n : Nat} (hn : 0 < n) (hM : M ≤ n * 9223372036854775807) : ∃ hi lo q r, MeanF M n hi lo q r := by
  have e : M / 18446744073709551616 * 18446744073709551616 + M % 18446744073709551616 = M := by omega
  have hq : M / n ≤ 9223372036854775807 := Nat.div_le_of_le_mul hM
  have hr := Nat.mod_lt M hn
  have hd := Nat.div_add_mod M n
  refine ⟨_, _, _, _, rfl, rfl, ?_, Nat.mod_lt _ (by decide), rfl, rfl, ?_, ?_, ?_, ?_⟩
  · have h1 : M / 18446744073709551616 ≤ n / 2 := by omega
    omega
  · rw [e]; exact hr
  · rw [e]; exact hq
  · rw [e]
    intro hh
    rcases Nat.lt_or_ge (M / n) 9223372036854775807 with h | h
    · exact h
    · have h2 : M / n = 9223372036854775807 := by omega
      rw [h2] at hd
      omega
  · rw [e]; rfl
set_option maxRecDepth 100000 in
set_option maxHeartbeats 4000000 in
theorem aggs_mean (l : List Int) (A : Option Addr) (n c B : Nat) (w : World) (hr : Reads w B 1 A n (I l)) (hn : 0 < n) (hm : n ≤ 1000000000000) (h63 : ∀ x ∈ l, In63 x) :
    Calls Tryz.prog 111 #[.slice A n c] w fun e w' => e = .returned (.int .i64 (meanG l)) ∧ Below w.heap.size w w' := by
  have hlen : l.length = n := by have := hr.1; simp [I] at this; omega
  have hM := sum_le l h63
  rw [hlen] at hM
  obtain ⟨hi, lo, q, r, F⟩ := mean_facts hn hM
  have HS := Lib.hid (fun W (hb : Below B w W) => aggs_sum l A n c B W (hr.below hb) hm (fun x hx => by have := h63 x hx; unfold In63 at this; unfold Is64; omega))
  unfold meanG
  rw [hlen]
  obtain ⟨S, hS⟩ : ∃ S, l.sum = S := ⟨_, rfl⟩
  rw [hS] at HS F ⊢
  rw [F.mn]
  have HD := Lib.hid (fun W => (show Calls Tryz.prog 186 #[.int .u64 hi, .int .u64 lo, .int .u64 n] W fun e w' => e = .returned (.tuple #[.int .u64 (q : Int), .int .u64 (r : Int)]) ∧ Below W.heap.size W w' by have := div64_any hi lo n F.lt F.ll (by omega) W; rw [F.hq, F.hr] at this; exact this))
  have hhi := F.hhi
  have hlo := F.hlo
  have hlt := F.lt
  have hll := F.ll
  have hrn := F.rn
  have hql := F.ql
  have hup' := F.up
  have k1 : IntKind.u64.wrap (hi : Int) = hi := wu64 (by omega) (by omega)
  have k2 : IntKind.u64.wrap (n : Int) = n := wu64 (by omega) (by omega)
  have k3 : IntKind.u64.wrap ((n : Int) - (r : Int)) = (n : Int) - (r : Int) := wu64 (by omega) (by omega)
  clear hr h63 hM F hlen hS
  obtain ⟨H, hH⟩ : ∃ H, H = S / 18446744073709551616 := ⟨_, rfl⟩
  obtain ⟨y, hy⟩ : ∃ y : Nat, (y : Int) = S % 18446744073709551616 := ⟨(S % 18446744073709551616).toNat, by omega⟩
  rw [← hH, ← hy] at HS
  by_cases hneg : S < 0
  · rw [if_pos hneg]
    obtain ⟨M, hMM⟩ : ∃ M : Nat, S.natAbs = M := ⟨_, rfl⟩
    have hSM : S = -(M : Int) := by omega
    have hM0 : 0 < M := by omega
    rw [hMM] at hhi hlo
    rw [hSM] at hH hy
    obtain ⟨w1, hlo2, w3, w4⟩ := neg_words hM0 hH hy hhi hlo
    clear hMM hSM hM0 hH hy hhi hlo hneg
    obtain ⟨bo, hbo⟩ : ∃ bo : Nat, (if 0 < y + 0 then 1 else 0 : Nat) = bo := ⟨_, rfl⟩
    have hA := fun W => run_Sub64 y W
    rw [hbo, hlo2] at hA
    have hsum : (decide (H < 0)) = true := by simpa using w1
    have hb2 : (bo : Int) = 0 ∧ -H = hi ∨ (bo : Int) = 1 ∧ -H - 1 = hi := by
      rcases Nat.eq_zero_or_pos y with h | h
      · left; subst h; exact ⟨by rw [← hbo]; rfl, w4 rfl⟩
      · right; exact ⟨by rw [← hbo, if_pos (by omega)]; rfl, w3 h⟩
    clear w3 w4 hbo hlo2 w1
    have e1 : wrap64 (-H) = -H := wr64 (by omega) (by omega)
    have e0 : wrap64 (bo : Int) = bo := wr64 (by omega) (by omega)
    have e3 : -H - (bo : Int) = (hi : Int) := by omega
    have e2 : wrap64 (-H - (bo : Int)) = (hi : Int) := by rw [e3]; exact wr64 (by omega) (by omega)
    clear hb2 e3
    by_cases hup : n - r ≤ r
    · have h5 : (decide ((n : Int) - (r : Int) ≤ (r : Int))) = true := decide_eq_true (by omega)
      have h6 := hup' hup
      obtain ⟨Q, hQ⟩ : ∃ Q : Int, Q = (q : Int) + 1 := ⟨_, rfl⟩
      have k4 : IntKind.u64.wrap ((q : Int) + 1) = Q := by rw [hQ]; exact wuq1 q h6
      have k5 : wrap64 Q = Q := by rw [hQ]; exact wrq1 q h6
      have k6 : wrap64 (-Q) = -Q := by rw [hQ]; exact wrn1 q h6
      rw [if_pos hup]
      rw [show (((q + 1 : Nat) : Int)) = Q from hQ.symm]
      clear hQ h6
      clear hup hup' hlt hll hrn hql hn
      go_enter Tryz.func111, Tryz.ntmps111
      go_wp2_with (first | (go_at_call 106; refine (HS.out _ (by (with_reducible repeat' (first | exact .refl _ _ | assumption | refine bmP ?_ ?_ | refine baP ?_ _ ?_ | refine .drew ?_ | refine .setCell ?_ ?_ _ | refine bdP ?_ _)) <;> go_size)).mono ?_; rintro e w2 ⟨rfl, hb⟩; obtain ⟨l2, q2, rfl⟩ := more_of_below hb; clear hb) | (go_at_call 186; refine (HD.out _).mono ?_; rintro e w2 ⟨rfl, hb⟩; obtain ⟨l2, q2, rfl⟩ := more_of_below hb; clear hb))
      all_goals go_returns
      all_goals exact ⟨(by first | rfl | exact congrArg (fun z => Ending.returned (Value.int .i64 z)) k6 | exact congrArg (fun z => Ending.returned (Value.int .i64 z)) k5), (by (with_reducible repeat' (first | exact .refl _ _ | assumption | refine bmP ?_ ?_ | refine baP ?_ _ ?_ | refine .drew ?_ | refine .setCell ?_ ?_ _ | refine bdP ?_ _)) <;> go_size)⟩
    · have h5 : (decide ((n : Int) - (r : Int) ≤ (r : Int))) = false := decide_eq_false (by omega)
      have k5 : wrap64 (q : Int) = (q : Int) := wrq q hql
      have k6 : wrap64 (-(q : Int)) = -(q : Int) := wrn q hql
      rw [if_neg hup]
      clear hup hup' hlt hll hrn hql hn
      go_enter Tryz.func111, Tryz.ntmps111
      go_wp2_with (first | (go_at_call 106; refine (HS.out _ (by (with_reducible repeat' (first | exact .refl _ _ | assumption | refine bmP ?_ ?_ | refine baP ?_ _ ?_ | refine .drew ?_ | refine .setCell ?_ ?_ _ | refine bdP ?_ _)) <;> go_size)).mono ?_; rintro e w2 ⟨rfl, hb⟩; obtain ⟨l2, q2, rfl⟩ := more_of_below hb; clear hb) | (go_at_call 186; refine (HD.out _).mono ?_; rintro e w2 ⟨rfl, hb⟩; obtain ⟨l2, q2, rfl⟩ := more_of_below hb; clear hb))
      all_goals go_returns
      all_goals exact ⟨(by first | rfl | exact congrArg (fun z => Ending.returned (Value.int .i64 z)) k6 | exact congrArg (fun z => Ending.returned (Value.int .i64 z)) k5), (by (with_reducible repeat' (first | exact .refl _ _ | assumption | refine bmP ?_ ?_ | refine baP ?_ _ ?_ | refine .drew ?_ | refine .setCell ?_ ?_ _ | refine bdP ?_ _)) <;> go_size)⟩
  · rw [if_neg hneg]
    obtain ⟨M, hMM⟩ : ∃ M : Nat, S.natAbs = M := ⟨_, rfl⟩
    have hSM : S = (M : Int) := by omega
    rw [hMM] at hhi hlo
    rw [hSM] at hH hy
    obtain ⟨w1, w2⟩ := pos_words hH hy hhi hlo
    clear hMM hSM hH hy hhi hlo hneg
    subst w2
    subst w1
    have hsum : (decide ((hi : Int) < 0)) = false := by simp
    by_cases hup : n - r ≤ r
    · have h5 : (decide ((n : Int) - (r : Int) ≤ (r : Int))) = true := decide_eq_true (by omega)
      have h6 := hup' hup
      obtain ⟨Q, hQ⟩ : ∃ Q : Int, Q = (q : Int) + 1 := ⟨_, rfl⟩
      have k4 : IntKind.u64.wrap ((q : Int) + 1) = Q := by rw [hQ]; exact wuq1 q h6
      have k5 : wrap64 Q = Q := by rw [hQ]; exact wrq1 q h6
      have k6 : wrap64 (-Q) = -Q := by rw [hQ]; exact wrn1 q h6
      rw [if_pos hup]
      rw [show (((q + 1 : Nat) : Int)) = Q from hQ.symm]
      clear hQ h6
      clear hup hup' hlt hll hrn hql hn
      go_enter Tryz.func111, Tryz.ntmps111
      go_wp2_with (first | (go_at_call 106; refine (HS.out _ (by (with_reducible repeat' (first | exact .refl _ _ | assumption | refine bmP ?_ ?_ | refine baP ?_ _ ?_ | refine .drew ?_ | refine .setCell ?_ ?_ _ | refine bdP ?_ _)) <;> go_size)).mono ?_; rintro e w2 ⟨rfl, hb⟩; obtain ⟨l2, q2, rfl⟩ := more_of_below hb; clear hb) | (go_at_call 186; refine (HD.out _).mono ?_; rintro e w2 ⟨rfl, hb⟩; obtain ⟨l2, q2, rfl⟩ := more_of_below hb; clear hb))
      all_goals go_returns
      all_goals exact ⟨(by first | rfl | exact congrArg (fun z => Ending.returned (Value.int .i64 z)) k6 | exact congrArg (fun z => Ending.returned (Value.int .i64 z)) k5), (by (with_reducible repeat' (first | exact .refl _ _ | assumption | refine bmP ?_ ?_ | refine baP ?_ _ ?_ | refine .drew ?_ | refine .setCell ?_ ?_ _ | refine bdP ?_ _)) <;> go_size)⟩
    · have h5 : (decide ((n : Int) - (r : Int) ≤ (r : Int))) = false := decide_eq_false (by omega)
      have k5 : wrap64 (q : Int) = (q : Int) := wrq q hql
      have k6 : wrap64 (-(q : Int)) = -(q : Int) := wrn q hql
      rw [if_neg hup]
      clear hup hup' hlt hll hrn hql hn
      go_enter Tryz.func111, Tryz.ntmps111
      go_wp2_with (first | (go_at_call 106; refine (HS.out _ (by (with_reducible repeat' (first | exact .refl _ _ | assumption | refine bmP ?_ ?_ | refine baP ?_ _ ?_ | refine .drew ?_ | refine .setCell ?_ ?_ _ | refine bdP ?_ _)) <;> go_size)).mono ?_; rintro e w2 ⟨rfl, hb⟩; obtain ⟨l2, q2, rfl⟩ := more_of_below hb; clear hb) | (go_at_call 186; refine (HD.out _).mono ?_; rintro e w2 ⟨rfl, hb⟩; obtain ⟨l2, q2, rfl⟩ := more_of_below hb; clear hb))
      all_goals go_returns
      all_goals exact ⟨(by first | rfl | exact congrArg (fun z => Ending.returned (Value.int .i64 z)) k6 | exact congrArg (fun z => Ending.returned (Value.int .i64 z)) k5), (by (with_reducible repeat' (first | exact .refl _ _ | assumption | refine bmP ?_ ?_ | refine baP ?_ _ ?_ | refine .drew ?_ | refine .setCell ?_ ?_ _ | refine bdP ?_ _)) <;> go_size)⟩
end Go.Proofs.YtegbhdeaicgpkaaGreatDoor
namespace Go.Proofs.YtegbhdeaicgpkaaGreatDoor
open Go Go.RowKit
structure ArgsAt (w : World) (pl : List (Arg × List En)) (A : Option Addr) (n : Nat) : Prop where
  hr : Reads w w.heap.size 11 A n (argFlat (pl.map Prod.fst))
  hE : ∀ p ∈ pl, EntsAt w p.1 p.2
  hT : (itemsG pl).length ≤ 1000000000000
  hm : n ≤ 1000000000000
  hnn : ∀ p ∈ pl, p.1.n ≤ 1000000000000
  h64 : ∀ p ∈ pl, Is64 p.1.val.num ∧ ∀ e ∈ p.2, Is64 e.v.num
  hok : ∀ p ∈ pl, argOk p.1 p.2 = true
theorem ArgsAt.below {w W : World} {pl : List (Arg × List En)} {A : Option Addr} {n : Nat} (h : ArgsAt w pl A n) (hb : Below w.heap.size w W) : ArgsAt W pl A n :=
  ⟨(h.hr.below hb).lift hb.size, fun p hp => (h.hE p hp).below hb, h.hT, h.hm, h.hnn, h.h64, h.hok⟩
theorem entsGo_may {t l b r : Int} : ∀ {o : Option En} {es : List En}, entsGo t l b r o es = true → ∀ e ∈ es, mayG e.v = true ∧ inB t l b r e.row e.col = true
  | _, [], _ => fun e he => by simp at he
  | none, x :: es, h => fun e he => by
    unfold entsGo at h
    simp only [Bool.and_eq_true] at h
    rcases List.mem_cons.1 he with rfl | he
    · exact ⟨h.1.2, h.1.1⟩
    · exact entsGo_may h.2 e he
  | some _, x :: es, h => fun e he => by
    unfold entsGo at h
    simp only [Bool.and_eq_true] at h
    rcases List.mem_cons.1 he with rfl | he
    · exact ⟨h.1.1.2, h.1.1.1⟩
    · exact entsGo_may h.2 e he
theorem items_may {w : World} {pl : List (Arg × List En)} {A : Option Addr} {n : Nat} (h : ArgsAt w pl A n) : ∀ v ∈ itemsG pl, mayG v = true ∧ Is64 v.num := by
  intro v hv
  obtain ⟨p, hp, hv⟩ := List.mem_flatMap.1 hv
  have h1 := h.hok p hp
  have h2 := h.h64 p hp
  have h3 := (h.hE p hp).1
  unfold itemsA at hv
  unfold argOk at h1
  by_cases hm : p.1.many = true
  · rw [if_pos hm] at h1 hv
    simp only [Bool.and_eq_true] at h1
    simp only [List.nil_append, List.mem_map] at hv
    obtain ⟨e, he, rfl⟩ := hv
    exact ⟨(entsGo_may h1.2 e he).1, h2.2 e he⟩
  · rw [if_neg hm] at h1 hv
    simp only [Bool.and_eq_true, decide_eq_true_eq] at h1
    have h4 : p.2 = [] := List.length_eq_zero_iff.1 (by rw [h3]; exact h1.1.2)
    rw [h4] at hv
    simp only [List.map_nil, List.append_nil, List.mem_cons, List.not_mem_nil, or_false] at hv
    subst hv
    exact ⟨h1.2, h2.1⟩
theorem num_63 {v : V} (h : mayG v = true) (h64 : Is64 v.num) (h1 : v.tag = 1) : In63 v.num := by
  unfold mayG at h
  simp only [Bool.and_eq_true, decide_eq_true_eq] at h
  rw [if_pos h1] at h
  have h5 : v.num ≠ minI := by simpa using h.2
  unfold minI at h5
  unfold Is64 at h64
  unfold In63
  omega
theorem among_63 {w : World} {pl : List (Arg × List En)} {A : Option Addr} {n : Nat} (h : ArgsAt w pl A n) : ∀ x ∈ (amongG (itemsG pl)).1, In63 x := by
  intro x hx
  unfold amongG at hx
  split at hx
  · simp at hx
  · simp only [numsOf, List.mem_map, List.mem_filter] at hx
    obtain ⟨v, ⟨hv, h1⟩, rfl⟩ := hx
    obtain ⟨a, b⟩ := items_may h v hv
    exact num_63 a b (by simpa [isN] using h1)
theorem among_le (vs : List V) : (amongG vs).1.length ≤ vs.length := by
  unfold amongG
  split
  · simp
  · exact numsOf_le vs
set_option maxRecDepth 100000 in
set_option maxHeartbeats 4000000 in
theorem aggs_numbers0 (p k : Nat) (hk : ∀ (args : Array Value) (w : World), Sem.run Tryz.prog (callFunc k args) w = .ok (.enter k args) w) (pl : List (Arg × List En)) (A : Option Addr) (n c : Nat) (tx : Int) (w : World) (hp : w.cell? ⟨p, 0, none⟩ = some (.func (.func k) #[] #[])) (hP : ArgsAt w pl A n) (r : V)
    (hf : ∀ W A' c', Below w.heap.size w W → Reads W W.heap.size 1 A' (amongG (itemsG pl)).1.length (I (amongG (itemsG pl)).1) → Calls Tryz.prog k #[.slice A' (amongG (itemsG pl)).1.length c'] W fun e w' => e = .returned (Value.agg #[Value.int .i64 r.tag, Value.int .i64 r.num, Value.string r.str, Value.bool r.is, Value.int .i64 r.code]) ∧ Below W.heap.size W w') :
    Calls Tryz.prog 179 #[.slice A n c, .int .i64 tx, .pointer (some ⟨p, 0, none⟩)] w fun e w' => e = .returned (Value.agg #[Value.int .i64 (if (amongG (itemsG pl)).2.tag = 4 then (amongG (itemsG pl)).2 else r).tag, Value.int .i64 (if (amongG (itemsG pl)).2.tag = 4 then (amongG (itemsG pl)).2 else r).num, Value.string (if (amongG (itemsG pl)).2.tag = 4 then (amongG (itemsG pl)).2 else r).str, Value.bool (if (amongG (itemsG pl)).2.tag = 4 then (amongG (itemsG pl)).2 else r).is, Value.int .i64 (if (amongG (itemsG pl)).2.tag = 4 then (amongG (itemsG pl)).2 else r).code]) ∧ Below w.heap.size w w' := by
  have HI := Lib.hid (fun W (hb : Below w.heap.size w W) => aggs_items pl A n c W.heap.size W (hP.below hb).hr (hP.below hb).hE hP.hT hP.hm hP.hnn)
  have HA := Lib.hid (fun A' c' B' W (h : Reads W B' 5 A' (itemsG pl).length (flat (itemsG pl))) => aggs_among (itemsG pl) A' (itemsG pl).length c' B' W h hP.hT)
  obtain ⟨L, hL⟩ : ∃ L, itemsG pl = L := ⟨_, rfl⟩
  rw [hL] at HI HA hf ⊢
  obtain ⟨ls, hls⟩ : ∃ ls, (amongG L).1 = ls := ⟨_, rfl⟩
  obtain ⟨f, hf0⟩ : ∃ f, (amongG L).2 = f := ⟨_, rfl⟩
  rw [hls] at hf
  simp only [hls, hf0] at HA
  rw [hf0]
  have HF := Lib.hid hf
  have hpl : p < w.heap.size := World.block_lt_of_cell? w _ hp
  have hpl2 : p < w.heap.size + 1 := Nat.lt_succ_of_lt hpl
  clear hls hf0 hL hP hf
  by_cases h4 : f.tag = 4
  · have h4' : (f.tag == 4) = true := by simp [h4]
    rw [if_pos h4]
    clear h4
    go_enter Tryz.func179, Tryz.ntmps179
    go_wp2_with (first | (go_at_call 181; refine (HI.out _ (by (with_reducible repeat' (first | exact .refl _ _ | assumption | refine bmP ?_ ?_ | refine baP ?_ _ ?_ | refine .drew ?_ | refine .setCell ?_ ?_ _ | refine bdP ?_ _)) <;> go_size)).mono ?_; rintro e w1 ⟨v, rfl, ho, hb⟩; obtain ⟨Ai, ci, rfl⟩ := own_sliceN ho; have HO := Lib.hid ho; clear ho; obtain ⟨l1, q1, rfl⟩ := more_of_below hb; clear hb) | (go_at_call 180; refine (HA.out _ _ _ _ (Reads.of_own HO.out)).mono ?_; rintro e w2 ⟨v, rfl, ho2, hb⟩; obtain ⟨Aj, cj, rfl⟩ := own_sliceN ho2; have HO2 := Lib.hid ho2; clear ho2; obtain ⟨l2, q2, rfl⟩ := more_of_below hb; clear hb; rw [more_more] at HO2 ⊢; obtain ⟨lx, hlx⟩ : ∃ lx, lx = l1 ++ l2 := ⟨_, rfl⟩; rw [← hlx] at HO2 ⊢; clear hlx; have hpl3 : p < w.heap.size + 1 + lx.length := lt_len hpl2))
    all_goals go_returns
    all_goals exact ⟨rfl, (by (with_reducible repeat' (first | exact .refl _ _ | assumption | refine bmP ?_ ?_ | refine baP ?_ _ ?_ | refine .drew ?_ | refine .setCell ?_ ?_ _ | refine bdP ?_ _)) <;> go_size)⟩
  · have h4' : (f.tag == 4) = false := by simp [h4]
    rw [if_neg h4]
    clear h4
    go_enter Tryz.func179, Tryz.ntmps179
    go_wp2_with (first | (go_at_call 181; refine (HI.out _ (by (with_reducible repeat' (first | exact .refl _ _ | assumption | refine bmP ?_ ?_ | refine baP ?_ _ ?_ | refine .drew ?_ | refine .setCell ?_ ?_ _ | refine bdP ?_ _)) <;> go_size)).mono ?_; rintro e w1 ⟨v, rfl, ho, hb⟩; obtain ⟨Ai, ci, rfl⟩ := own_sliceN ho; have HO := Lib.hid ho; clear ho; obtain ⟨l1, q1, rfl⟩ := more_of_below hb; clear hb) | (go_at_call 180; refine (HA.out _ _ _ _ (Reads.of_own HO.out)).mono ?_; rintro e w2 ⟨v, rfl, ho2, hb⟩; obtain ⟨Aj, cj, rfl⟩ := own_sliceN ho2; have HO2 := Lib.hid ho2; clear ho2; obtain ⟨l2, q2, rfl⟩ := more_of_below hb; clear hb; rw [more_more] at HO2 ⊢; obtain ⟨lx, hlx⟩ : ∃ lx, lx = l1 ++ l2 := ⟨_, rfl⟩; rw [← hlx] at HO2 ⊢; clear hlx; have hpl3 : p < w.heap.size + 1 + lx.length := lt_len hpl2) | (with_reducible refine Calls.mono (HF.out _ _ _ (by (with_reducible repeat' (first | exact .refl _ _ | assumption | refine bmP ?_ ?_ | refine baP ?_ _ ?_ | refine .drew ?_ | refine .setCell ?_ ?_ _ | refine bdP ?_ _)) <;> go_size) ((Reads.of_own (own_below HO2.out (by (with_reducible repeat' (first | exact .refl _ _ | assumption | refine bmP ?_ ?_ | refine baP ?_ _ ?_ | refine .drew ?_ | refine .setCell ?_ ?_ _ | refine bdP ?_ _)) <;> go_size))))) ?_; rintro e w3 ⟨rfl, hb⟩; obtain ⟨l3, q3, rfl⟩ := more_of_below hb; clear hb))
    all_goals go_returns
    all_goals exact ⟨rfl, (by (with_reducible repeat' (first | exact .refl _ _ | assumption | refine bmP ?_ ?_ | refine baP ?_ _ ?_ | refine .drew ?_ | refine .setCell ?_ ?_ _ | refine bdP ?_ _)) <;> go_size)⟩
set_option maxRecDepth 100000 in
set_option maxHeartbeats 4000000 in
theorem aggs_numbers1 (p k pc : Nat) (hk : ∀ (args : Array Value) (w : World), Sem.run Tryz.prog (callFunc k args) w = .ok (.enter k args) w) (pl : List (Arg × List En)) (A : Option Addr) (n c : Nat) (tx : Int) (w : World) (hp : w.cell? ⟨p, 0, none⟩ = some (.func (.func k) #[] #[.pointer (some ⟨pc, 0, none⟩)])) (hP : ArgsAt w pl A n) (r : V)
    (hf : ∀ W A' c', Below w.heap.size w W → Reads W W.heap.size 1 A' (amongG (itemsG pl)).1.length (I (amongG (itemsG pl)).1) → Calls Tryz.prog k #[.slice A' (amongG (itemsG pl)).1.length c', .pointer (some ⟨pc, 0, none⟩)] W fun e w' => e = .returned (Value.agg #[Value.int .i64 r.tag, Value.int .i64 r.num, Value.string r.str, Value.bool r.is, Value.int .i64 r.code]) ∧ Below W.heap.size W w') :
    Calls Tryz.prog 179 #[.slice A n c, .int .i64 tx, .pointer (some ⟨p, 0, none⟩)] w fun e w' => e = .returned (Value.agg #[Value.int .i64 (if (amongG (itemsG pl)).2.tag = 4 then (amongG (itemsG pl)).2 else r).tag, Value.int .i64 (if (amongG (itemsG pl)).2.tag = 4 then (amongG (itemsG pl)).2 else r).num, Value.string (if (amongG (itemsG pl)).2.tag = 4 then (amongG (itemsG pl)).2 else r).str, Value.bool (if (amongG (itemsG pl)).2.tag = 4 then (amongG (itemsG pl)).2 else r).is, Value.int .i64 (if (amongG (itemsG pl)).2.tag = 4 then (amongG (itemsG pl)).2 else r).code]) ∧ Below w.heap.size w w' := by
  have HI := Lib.hid (fun W (hb : Below w.heap.size w W) => aggs_items pl A n c W.heap.size W (hP.below hb).hr (hP.below hb).hE hP.hT hP.hm hP.hnn)
  have HA := Lib.hid (fun A' c' B' W (h : Reads W B' 5 A' (itemsG pl).length (flat (itemsG pl))) => aggs_among (itemsG pl) A' (itemsG pl).length c' B' W h hP.hT)
  obtain ⟨L, hL⟩ : ∃ L, itemsG pl = L := ⟨_, rfl⟩
  rw [hL] at HI HA hf ⊢
  obtain ⟨ls, hls⟩ : ∃ ls, (amongG L).1 = ls := ⟨_, rfl⟩
  obtain ⟨f, hf0⟩ : ∃ f, (amongG L).2 = f := ⟨_, rfl⟩
  rw [hls] at hf
  simp only [hls, hf0] at HA
  rw [hf0]
  have HF := Lib.hid hf
  have hpl : p < w.heap.size := World.block_lt_of_cell? w _ hp
  have hpl2 : p < w.heap.size + 1 := Nat.lt_succ_of_lt hpl
  clear hls hf0 hL hP hf
  by_cases h4 : f.tag = 4
  · have h4' : (f.tag == 4) = true := by simp [h4]
    rw [if_pos h4]
    clear h4
    go_enter Tryz.func179, Tryz.ntmps179
    go_wp2_with (first | (go_at_call 181; refine (HI.out _ (by (with_reducible repeat' (first | exact .refl _ _ | assumption | refine bmP ?_ ?_ | refine baP ?_ _ ?_ | refine .drew ?_ | refine .setCell ?_ ?_ _ | refine bdP ?_ _)) <;> go_size)).mono ?_; rintro e w1 ⟨v, rfl, ho, hb⟩; obtain ⟨Ai, ci, rfl⟩ := own_sliceN ho; have HO := Lib.hid ho; clear ho; obtain ⟨l1, q1, rfl⟩ := more_of_below hb; clear hb) | (go_at_call 180; refine (HA.out _ _ _ _ (Reads.of_own HO.out)).mono ?_; rintro e w2 ⟨v, rfl, ho2, hb⟩; obtain ⟨Aj, cj, rfl⟩ := own_sliceN ho2; have HO2 := Lib.hid ho2; clear ho2; obtain ⟨l2, q2, rfl⟩ := more_of_below hb; clear hb; rw [more_more] at HO2 ⊢; obtain ⟨lx, hlx⟩ : ∃ lx, lx = l1 ++ l2 := ⟨_, rfl⟩; rw [← hlx] at HO2 ⊢; clear hlx; have hpl3 : p < w.heap.size + 1 + lx.length := lt_len hpl2))
    all_goals go_returns
    all_goals exact ⟨rfl, (by (with_reducible repeat' (first | exact .refl _ _ | assumption | refine bmP ?_ ?_ | refine baP ?_ _ ?_ | refine .drew ?_ | refine .setCell ?_ ?_ _ | refine bdP ?_ _)) <;> go_size)⟩
  · have h4' : (f.tag == 4) = false := by simp [h4]
    rw [if_neg h4]
    clear h4
    go_enter Tryz.func179, Tryz.ntmps179
    go_wp2_with (first | (go_at_call 181; refine (HI.out _ (by (with_reducible repeat' (first | exact .refl _ _ | assumption | refine bmP ?_ ?_ | refine baP ?_ _ ?_ | refine .drew ?_ | refine .setCell ?_ ?_ _ | refine bdP ?_ _)) <;> go_size)).mono ?_; rintro e w1 ⟨v, rfl, ho, hb⟩; obtain ⟨Ai, ci, rfl⟩ := own_sliceN ho; have HO := Lib.hid ho; clear ho; obtain ⟨l1, q1, rfl⟩ := more_of_below hb; clear hb) | (go_at_call 180; refine (HA.out _ _ _ _ (Reads.of_own HO.out)).mono ?_; rintro e w2 ⟨v, rfl, ho2, hb⟩; obtain ⟨Aj, cj, rfl⟩ := own_sliceN ho2; have HO2 := Lib.hid ho2; clear ho2; obtain ⟨l2, q2, rfl⟩ := more_of_below hb; clear hb; rw [more_more] at HO2 ⊢; obtain ⟨lx, hlx⟩ : ∃ lx, lx = l1 ++ l2 := ⟨_, rfl⟩; rw [← hlx] at HO2 ⊢; clear hlx; have hpl3 : p < w.heap.size + 1 + lx.length := lt_len hpl2) | (with_reducible refine Calls.mono (HF.out _ _ _ (by (with_reducible repeat' (first | exact .refl _ _ | assumption | refine bmP ?_ ?_ | refine baP ?_ _ ?_ | refine .drew ?_ | refine .setCell ?_ ?_ _ | refine bdP ?_ _)) <;> go_size) ((Reads.of_own (own_below HO2.out (by (with_reducible repeat' (first | exact .refl _ _ | assumption | refine bmP ?_ ?_ | refine baP ?_ _ ?_ | refine .drew ?_ | refine .setCell ?_ ?_ _ | refine bdP ?_ _)) <;> go_size))))) ?_; rintro e w3 ⟨rfl, hb⟩; obtain ⟨l3, q3, rfl⟩ := more_of_below hb; clear hb))
    all_goals go_returns
    all_goals exact ⟨rfl, (by (with_reducible repeat' (first | exact .refl _ _ | assumption | refine bmP ?_ ?_ | refine baP ?_ _ ?_ | refine .drew ?_ | refine .setCell ?_ ?_ _ | refine bdP ?_ _)) <;> go_size)⟩
set_option maxRecDepth 100000 in
set_option maxHeartbeats 4000000 in
theorem aggs_some (p k : Nat) (hk : ∀ (args : Array Value) (w : World), Sem.run Tryz.prog (callFunc k args) w = .ok (.enter k args) w) (l : List Int) (A : Option Addr) (c : Nat) (w : World) (hp : w.cell? ⟨p, 0, none⟩ = some (.func (.func k) #[] #[])) (hr : Reads w w.heap.size 1 A l.length (I l)) (r : Int)
    (hf : 0 < l.length → ∀ W, Below w.heap.size w W → Reads W W.heap.size 1 A l.length (I l) → Calls Tryz.prog k #[.slice A l.length c] W fun e w' => e = .returned (.int .i64 r) ∧ Below W.heap.size W w') :
    Calls Tryz.prog 184 #[.slice A l.length c, .pointer (some ⟨p, 0, none⟩)] w fun e w' => e = .returned (Value.agg #[Value.int .i64 (if l.length = 0 then errG 6 else numG r).tag, Value.int .i64 (if l.length = 0 then errG 6 else numG r).num, Value.string (if l.length = 0 then errG 6 else numG r).str, Value.bool (if l.length = 0 then errG 6 else numG r).is, Value.int .i64 (if l.length = 0 then errG 6 else numG r).code]) ∧ Below w.heap.size w w' := by
  have HR := Lib.hid hr
  have hpl : p < w.heap.size := World.block_lt_of_cell? w _ hp
  have hpl2 : p < w.heap.size + 1 := Nat.lt_succ_of_lt hpl
  clear hr
  obtain ⟨n, hn⟩ : ∃ n, l.length = n := ⟨_, rfl⟩
  rw [hn] at hf HR ⊢
  clear hn
  by_cases h0 : n = 0
  · subst h0
    rw [if_pos rfl]
    go_enter Tryz.func184, Tryz.ntmps184
    go_wp2_with (first | (go_at_call 27; refine (value_Err _ _).mono ?_; rintro e w3 ⟨rfl, hb⟩; obtain ⟨l3, q3, rfl⟩ := more_of_below hb; clear hb))
    all_goals go_returns
    all_goals exact ⟨rfl, (by (with_reducible repeat' (first | exact .refl _ _ | assumption | refine bmP ?_ ?_ | refine baP ?_ _ ?_ | refine .drew ?_ | refine .setCell ?_ ?_ _ | refine bdP ?_ _)) <;> go_size)⟩
  · rw [if_neg h0]
    have HF := Lib.hid (hf (by omega))
    have h0' : (((n : Nat) : Int) == 0) = false := by simpa using h0
    clear hf h0
    go_enter Tryz.func184, Tryz.ntmps184
    go_wp2_with (first | (with_reducible refine Calls.mono (HF.out _ (by (with_reducible repeat' (first | exact .refl _ _ | assumption | refine bmP ?_ ?_ | refine baP ?_ _ ?_ | refine .drew ?_ | refine .setCell ?_ ?_ _ | refine bdP ?_ _)) <;> go_size) ((HR.out.below (by (with_reducible repeat' (first | exact .refl _ _ | assumption | refine bmP ?_ ?_ | refine baP ?_ _ ?_ | refine .drew ?_ | refine .setCell ?_ ?_ _ | refine bdP ?_ _)) <;> go_size)).lift (show Below w.heap.size w _ from (by (with_reducible repeat' (first | exact .refl _ _ | assumption | refine bmP ?_ ?_ | refine baP ?_ _ ?_ | refine .drew ?_ | refine .setCell ?_ ?_ _ | refine bdP ?_ _)) <;> go_size)).size)) ?_; rintro e w3 ⟨rfl, hb⟩; obtain ⟨l3, q3, rfl⟩ := more_of_below hb; clear hb) | (go_at_call 56; refine (value_Num _ _).mono ?_; rintro e w3 ⟨rfl, hb⟩; obtain ⟨l4, q4, rfl⟩ := more_of_below hb; clear hb))
    all_goals go_returns
    all_goals exact ⟨rfl, (by (with_reducible repeat' (first | exact .refl _ _ | assumption | refine bmP ?_ ?_ | refine baP ?_ _ ?_ | refine .drew ?_ | refine .setCell ?_ ?_ _ | refine bdP ?_ _)) <;> go_size)⟩
theorem aggs_sumit (l : List Int) (A : Option Addr) (c : Nat) (w : World) (hr : Reads w w.heap.size 1 A l.length (I l)) (hm : l.length ≤ 1000000000000) (h64 : ∀ x ∈ l, Is64 x) :
    Calls Tryz.prog 104 #[.slice A l.length c] w fun e w' => e = .returned (Value.agg #[Value.int .i64 (fitG l.sum).tag, Value.int .i64 (fitG l.sum).num, Value.string (fitG l.sum).str, Value.bool (fitG l.sum).is, Value.int .i64 (fitG l.sum).code]) ∧ Below w.heap.size w w' := by
  have HS := Lib.hid (fun W (hb : Below w.heap.size w W) => aggs_sum l A l.length c _ W (hr.below hb) hm h64)
  obtain ⟨S, hS⟩ : ∃ S, l.sum = S := ⟨_, rfl⟩
  rw [hS] at HS ⊢
  obtain ⟨n, hn⟩ : ∃ n, l.length = n := ⟨_, rfl⟩
  rw [hn] at HS ⊢
  clear hr hm h64 hS hn
  go_enter Tryz.func104, Tryz.ntmps104
  go_wp2_with (first | (go_at_call 106; refine (HS.out _ (by (with_reducible repeat' (first | exact .refl _ _ | assumption | refine bmP ?_ ?_ | refine baP ?_ _ ?_ | refine .drew ?_ | refine .setCell ?_ ?_ _ | refine bdP ?_ _)) <;> go_size)).mono ?_; rintro e w3 ⟨rfl, hb⟩; obtain ⟨l3, q3, rfl⟩ := more_of_below hb; clear hb) | (go_at_call 105; refine (aggs_fit S _).mono ?_; rintro e w3 ⟨rfl, hb⟩; obtain ⟨l4, q4, rfl⟩ := more_of_below hb; clear hb))
  all_goals go_returns
  all_goals exact ⟨rfl, (by (with_reducible repeat' (first | exact .refl _ _ | assumption | refine bmP ?_ ?_ | refine baP ?_ _ ?_ | refine .drew ?_ | refine .setCell ?_ ?_ _ | refine bdP ?_ _)) <;> go_size)⟩
set_option maxRecDepth 100000 in
set_option maxHeartbeats 4000000 in
theorem aggs_count (p k : Nat) (hk : ∀ (args : Array Value) (w : World), Sem.run Tryz.prog (callFunc k args) w = .ok (.enter k args) w) (f : V → Bool) (hf : ∀ v W, Calls Tryz.prog k #[(Value.agg #[Value.int .i64 v.tag, Value.int .i64 v.num, Value.string v.str, Value.bool v.is, Value.int .i64 v.code])] W fun e w' => e = .returned (.bool (f v)) ∧ Below W.heap.size W w')
    (pl : List (Arg × List En)) (A : Option Addr) (n c : Nat) (tx : Int) (w : World) (hp : w.cell? ⟨p, 0, none⟩ = some (.func (.func k) #[] #[])) (hP : ArgsAt w pl A n) :
    Calls Tryz.prog 189 #[.slice A n c, .int .i64 tx, .pointer (some ⟨p, 0, none⟩)] w fun e w' => e = .returned (Value.agg #[Value.int .i64 (numG (((itemsG pl).countP f : Int) * 10000)).tag, Value.int .i64 (numG (((itemsG pl).countP f : Int) * 10000)).num, Value.string (numG (((itemsG pl).countP f : Int) * 10000)).str, Value.bool (numG (((itemsG pl).countP f : Int) * 10000)).is, Value.int .i64 (numG (((itemsG pl).countP f : Int) * 10000)).code]) ∧ Below w.heap.size w w' := by
  have HI := Lib.hid (fun W (hb : Below w.heap.size w W) => aggs_items pl A n c W.heap.size W (hP.below hb).hr (hP.below hb).hE hP.hT hP.hm hP.hnn)
  have hT := hP.hT
  obtain ⟨us, hL⟩ : ∃ us, itemsG pl = us := ⟨_, rfl⟩
  rw [hL] at HI hT ⊢
  have HF := Lib.hid hf
  have hpl : p < w.heap.size := World.block_lt_of_cell? w _ hp
  have hpl2 : p < w.heap.size + 1 := Nat.lt_succ_of_lt hpl
  clear hL hP hf
  go_enter Tryz.func189, Tryz.ntmps189
  go_wp2_with (first | (go_at_call 181; refine (HI.out _ (by (with_reducible repeat' (first | exact .refl _ _ | assumption | refine bmP ?_ ?_ | refine baP ?_ _ ?_ | refine .drew ?_ | refine .setCell ?_ ?_ _ | refine bdP ?_ _)) <;> go_size)).mono ?_; rintro e w1 ⟨v, rfl, ho, hb⟩; obtain ⟨Ai, ci, rfl⟩ := own_sliceN ho; have HO := Lib.hid ho; clear ho; obtain ⟨l1, q1, rfl⟩ := more_of_below hb; clear hb))
  obtain ⟨WX, hWX⟩ : ∃ WX, WX = more (w.alloc zeroV) l1 q1 := ⟨_, rfl⟩
  have HBX := Lib.hid (show Below (w.alloc zeroV).heap.size (w.alloc zeroV) WX by rw [hWX]; exact below_more (Nat.le_refl _))
  have HRD := Lib.hid (show Reads WX WX.heap.size 5 Ai us.length (flat us) by rw [hWX]; exact Reads.of_own HO.out)
  have HWX := Lib.hid hWX
  clear HO hWX
  go_loopw [12, 6] (fun t v wr => ∃ j : Nat, j ≤ us.length ∧ t = .int .i64 j ∧ v = .int .i64 ((us.take j).countP f : Nat) ∧ Below WX.heap.size WX wr) (fun t _ _ => us.length - (intOf t).toNat)
  case atStart => exact ⟨0, Nat.zero_le _, rfl, rfl, by rw [HWX.out]; exact Below.refl _ _⟩
  case round =>
    obtain ⟨j, hj, rfl, rfl, hB⟩ := hrel
    have hb1 := HBX.out.trans (hB.mono HBX.out.size)
    have hb2 : Below w.heap.size w wr := (show Below w.heap.size w (w.alloc zeroV) from (by (with_reducible repeat' (first | exact .refl _ _ | assumption | refine bmP ?_ ?_ | refine baP ?_ _ ?_ | refine .drew ?_ | refine .setCell ?_ ?_ _ | refine bdP ?_ _)) <;> go_size)).trans (hb1.mono (by simp))
    have hp2 : wr.cell? ⟨p, 0, none⟩ = some (.func (.func k) #[] #[]) := cell_below hp hb2
    have hpl4 : p < wr.heap.size := Nat.lt_of_lt_of_le hpl hb2.size
    have HB := Lib.hid hB
    have HB1 := Lib.hid hb1
    clear hB hb1 hb2
    by_cases hlt : j < us.length
    · obtain ⟨x, hx⟩ : ∃ x, us[j]? = some x := ⟨_, List.getElem?_eq_getElem hlt⟩
      obtain ⟨bk, off, rfl, _, hc⟩ := HRD.out.2 (by omega)
      have hcell : ∀ i u, x.cells[i]? = some u → wr.cell? ⟨bk, off + (j * 5 + i), none⟩ = some u := fun i u hu => cell_below (hc _ u (flat_at us j x hx i u hu)) HB.out
      have c0 := hcell 0 _ rfl
      have c1 := hcell 1 _ rfl
      have c2 := hcell 2 _ rfl
      have c3 := hcell 3 _ rfl
      have c4 := hcell 4 _ rfl
      simp only [← Nat.add_assoc, Nat.add_zero] at c0 c1 c2 c3 c4
      have hbr : bk < wr.heap.size := World.block_lt_of_cell? wr _ c0
      have hcl : (us.take j).countP f ≤ j := Nat.le_trans List.countP_le_length (by rw [List.length_take]; omega)
      have hcs : (us.take (j + 1)).countP f = (us.take j).countP f + (if f x then 1 else 0) := by rw [take_one hx, List.countP_append]; simp [List.countP_cons]
      have HFX := Lib.hid (HF.out x)
      obtain ⟨z, hz⟩ : ∃ z, f x = z := ⟨_, rfl⟩
      rw [hz] at HFX hcs
      obtain ⟨m, hm⟩ : ∃ m, (us.take j).countP f = m := ⟨_, rfl⟩
      rw [hm] at hcl hcs ⊢
      have HCS := Lib.hid hcs
      clear hcell hc hx hz hcs hm
      cases z
      all_goals go_wp2_with (first | (with_reducible refine Calls.mono (HFX.out _) ?_; rintro e w3 ⟨rfl, hb⟩; obtain ⟨l3, q3, rfl⟩ := more_of_below hb; clear hb))
      all_goals go_roundw
      case rel => exact ⟨j + 1, by omega, by go_num, by rw [HCS.out]; simp, HB.out.trans ((show Below wr.heap.size wr _ from (by (with_reducible repeat' (first | exact .refl _ _ | assumption | refine bmP ?_ ?_ | refine baP ?_ _ ?_ | refine .drew ?_ | refine .setCell ?_ ?_ _ | refine bdP ?_ _)) <;> go_size)).mono HB.out.size)⟩
      case measure => simp [intOf]; omega
      case rel => exact ⟨j + 1, by omega, by go_num, by rw [HCS.out]; go_num, HB.out.trans ((show Below wr.heap.size wr _ from (by (with_reducible repeat' (first | exact .refl _ _ | assumption | refine bmP ?_ ?_ | refine baP ?_ _ ?_ | refine .drew ?_ | refine .setCell ?_ ?_ _ | refine bdP ?_ _)) <;> go_size)).mono HB.out.size)⟩
      case measure => simp [intOf]; omega
    · obtain rfl : j = us.length := by omega
      rw [List.take_of_length_le (Nat.le_refl _)]
      have hcl : us.countP f ≤ 1000000000000 := Nat.le_trans List.countP_le_length hT
      obtain ⟨m, hm⟩ : ∃ m, us.countP f = m := ⟨_, rfl⟩
      have HM := Lib.hid hm
      rw [hm] at hcl ⊢
      clear hm
      obtain ⟨l0, q0, hwe⟩ := more_of_below HB1.out
      subst hwe
      unfold zeroV at *
      go_wp2_with (first | (go_at_call 125; refine (aggs_whole _ (by omega) (by omega) _).mono ?_; rintro e w3 ⟨rfl, hb⟩; obtain ⟨l3, q3, rfl⟩ := more_of_below hb; clear hb))
      all_goals go_returns
      all_goals exact ⟨by rw [HM.out], (by (with_reducible repeat' (first | exact .refl _ _ | assumption | refine bmP ?_ ?_ | refine baP ?_ _ ?_ | refine .drew ?_ | refine .setCell ?_ ?_ _ | refine bdP ?_ _)) <;> go_size)⟩
end Go.Proofs.YtegbhdeaicgpkaaGreatDoor
