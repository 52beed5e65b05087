/-
  Parts of a proof: BelowT.
-/
import Derived.Test.YtegbhdeaicgpkaaGreatDoorJ47
import Derived.Test.YtegbhdeaicgpkaaGreatDoorJ45
set_option linter.all false
namespace Go.Proofs.YtegbhdeaicgpkaaGreatDoor
open Go Go.RowKit
theorem lay0 {s : ByteArray} (h : (numTab s).isSome = true) : layOf s = some 0 := by unfold layOf; rw [if_pos h]
theorem lay1 {s : ByteArray} (h0 : (numTab s).isSome = false) (h : (textTab s).isSome = true) : layOf s = some 1 := by unfold layOf; rw [if_neg (by rw [h0]; decide), if_pos h]
theorem lay2 {s : ByteArray} (h0 : (numTab s).isSome = false) (h1 : (textTab s).isSome = false) (h : (aggTab s).isSome = true) : layOf s = some 2 := by unfold layOf; rw [if_neg (by rw [h0]; decide), if_neg (by rw [h1]; decide), if_pos h]
theorem tabX_num {s : ByteArray} (h : layOf s = some 0) (pl : List (Arg × List En)) (tx : Int) : tabX s pl tx = numsCallX s (pl.map Prod.fst) (okJ pl) := by unfold tabX; rw [own_none h, h]; rfl
theorem tabX_text {s : ByteArray} (h : layOf s = some 1) (pl : List (Arg × List En)) (tx : Int) : tabX s pl tx = textsCallX s (pl.map Prod.fst) (okJ pl) tx := by unfold tabX; rw [own_none h, h]; rfl
theorem tabX_agg {s : ByteArray} (h : layOf s = some 2) (pl : List (Arg × List En)) (tx : Int) : tabX s pl tx = aggsCallX s (pl.map Prod.fst) pl (okJ pl) tx := by unfold tabX; rw [own_none h, h]; rfl
theorem tabX_none {s : ByteArray} (h : D1 50 s = false) (pl : List (Arg × List En)) (tx : Int) : tabX s pl tx = errG 8 := by
  unfold D1 at h
  simp only [Bool.or_eq_false_iff] at h
  unfold tabX
  cases ho : ownTab s with
  | some q => rw [own_known s ho] at h; cases h.1
  | none =>
    cases hl : layOf s with
    | some i => rw [lay_known s hl] at h; cases h.2
    | none => rfl
theorem funcsBelow {w : World} {pl : List (Arg × List En)} {A : Option Addr} {n c : Nat} (h : LawIn w pl A n c) (s : ByteArray) (tx : Int) :
    Calls Tryz.prog 3 #[.string s, .slice A n c, .int .i64 tx] w fun e w' => e = .returned (.bool true) ∧ Below w.heap.size w w' := by
  refine below_walk s (.slice A n c) tx w _ _ _ _ (tabX s pl tx) rfl rfl rfl rfl (fun W b hR hb => (h.below hb).table b hR s tx) (fun hk W hb => ?_) (fun hn hk W hb => ?_) (fun hn ht hk W hb => ?_) (fun hk => tabX_none hk pl tx)
  · rw [tabX_num (lay0 hk)]; exact (h.below hb).nums s tx
  · rw [tabX_text (lay1 hn hk)]; exact (h.below hb).texts s tx
  · rw [tabX_agg (lay2 hn ht hk)]; exact (h.below hb).aggs s tx
end Go.Proofs.YtegbhdeaicgpkaaGreatDoor
