/-
  Parts of a proof: Split, Trim.
-/
import Derived.Test.YtegbhdeaicgpkaaGreatDoorJ05
import Derived.Test.YtegbhdeaicgpkaaGreatDoorJ31
import Derived.RangeFuncBound
import Derived.Shelf.Abstract
import Derived.Shelf.RegionOpen
import Derived.WalkKit
import Derived.OwnWalkIn
import Derived.TacticsInMore
import Derived.LoopNIn
import Derived.LoopIn
import Derived.RangeFuncBox
import Derived.Maps.AppendAt
set_option linter.all false
namespace Go.Proofs.YtegbhdeaicgpkaaGreatDoor
open Go Go.RowKit Go.Shelf
attribute [local go_sem] Oper.semAt_some
def splitGo : Nat → List UInt8 → List (List UInt8)
  | 0, l => [l]
  | f + 1, l => if Lib.index l [32] < 0 then [l] else l.take (Lib.index l [32]).toNat :: splitGo f (l.drop ((Lib.index l [32]).toNat + 1))
def splitX (l : List UInt8) : List ByteArray := (splitGo (l.length + 1) l).map fun x => ⟨x.toArray⟩
def KeptBut (b n2 : Nat) (A B : World) : Prop := A.heap.size ≤ B.heap.size ∧ ∀ k, k ≠ b → k < n2 → B.heap[k]? = A.heap[k]?
theorem KeptBut.cell {b n2 k i : Nat} {A B : World} {v : Value} (h : KeptBut b n2 A B) (hk : k ≠ b) (h2 : k < n2) (hv : A.cell? ⟨k, i, none⟩ = some v) : B.cell? ⟨k, i, none⟩ = some v :=
  (World.cell?_of_block (a := ⟨k, i, none⟩) (h.2 k hk h2)).trans hv
theorem KeptBut.frozen {b n2 k i : Nat} {A B : World} (h : KeptBut b n2 A B) (hk : k ≠ b) (h2 : k < n2) : B.frozen? ⟨k, i, none⟩ = A.frozen? ⟨k, i, none⟩ :=
  World.frozen?_of_block (a := ⟨k, i, none⟩) (h.2 k hk h2)
def leftAt (b : Nat) (w : World) : Nat := match w.cell? ⟨b, 0, none⟩ with
  | some (.string s) => s.size
  | _ => 0
theorem extract_take (l : List UInt8) (i : Nat) : (⟨l.toArray⟩ : ByteArray).extract 0 i = ⟨(l.take i).toArray⟩ := by
  apply ByteArray.ext
  simp [ByteArray.data_extract]
theorem extract_drop (l : List UInt8) (i : Nat) : (⟨l.toArray⟩ : ByteArray).extract i l.length = ⟨(l.drop i).toArray⟩ := by
  apply ByteArray.ext
  simp only [ByteArray.data_extract, List.extract_toArray, List.extract_eq_take_drop]
  rw [List.take_of_length_le (by rw [List.length_drop]; omega)]
theorem addr_ne {a b : Nat} (h : a ≠ b) : (⟨a, 0, none⟩ : Addr) ≠ ⟨b, 0, none⟩ := fun e => h (by injection e)
set_option maxRecDepth 100000 in
set_option maxHeartbeats 1048576 in
theorem split_seq (n : Nat) (h1n : 1 ≤ n) (bSep bS bSave bW n2 : Nat) (hne : bSep ≠ bS ∧ bSave ≠ bS ∧ bSep ≠ bW ∧ bS ≠ bW ∧ bSave ≠ bW) (hn : bSep < n2 ∧ bS < n2 ∧ bSave < n2) (hbW : 2 < bW) (hn2 : 2 < n2) (hbS2 : 2 < bS) (ls : List UInt8) (hls : ls.length ≤ 1048576) (w : World) (hnw : n2 ≤ w.heap.size) (hM : MaxL w)
    (hsep : w.cell? ⟨bSep, 0, none⟩ = some (.string ⟨#[32]⟩)) (hs : w.cell? ⟨bS, 0, none⟩ = some (.string ⟨ls.toArray⟩)) (hfz : w.frozen? ⟨bS, 0, none⟩ = false) (hsave : w.cell? ⟨bSave, 0, none⟩ = some (.int .i64 0)) :
    SeqC Fence.wide n Tryz.prog 256 #[.pointer (some ⟨bSep, 0, none⟩), .pointer (some ⟨bS, 0, none⟩), .pointer (some ⟨bSave, 0, none⟩)] (fun x : ByteArray => #[.string x]) (KeptBut bW n2) (fun xs => xs = splitX ls) bS (splitX ls).length w := by
  intro l J W hW hJ hY h0
  have c1 := (hW.cell (p := ⟨bSep, 0, none⟩) (show bSep < w.heap.size by omega)).trans hsep
  have c2 := (hW.cell (p := ⟨bS, 0, none⟩) (show bS < w.heap.size by omega)).trans hs
  have c3 := (hW.cell (p := ⟨bSave, 0, none⟩) (show bSave < w.heap.size by omega)).trans hsave
  have f2 : W.frozen? ⟨bS, 0, none⟩ = false := (World.frozen?_of_block (a := ⟨bS, 0, none⟩) (hW.block bS (by omega))).trans hfz
  have hM1 := hM.below hW
  have hWs := hW.size
  refine callsIn_of_wp Tryz.func256 rfl trivial ?_ rfl
  simp only [Tryz.ntmps256, List.size_toArray, List.length_cons, List.length_nil, Nat.reduceAdd, Nat.reduceSub, Array.replicate_succ, Array.replicate_zero, List.push_toArray, List.append_toArray, List.nil_append, List.cons_append]
  gi_wp2
  gi_loopw [7] (fun _ wr => ∃ (f : Nat) (pre : List ByteArray) (rest : List UInt8), splitX ls = pre ++ (splitGo f rest).map (fun x => ⟨x.toArray⟩) ∧ rest.length < f ∧ rest.length ≤ 1048576 ∧ J pre wr ∧ W.heap.size ≤ wr.heap.size ∧ MaxL wr ∧ wr.cell? ⟨bSep, 0, none⟩ = some (.string ⟨#[32]⟩) ∧ wr.cell? ⟨bS, 0, none⟩ = some (.string ⟨rest.toArray⟩) ∧ wr.frozen? ⟨bS, 0, none⟩ = false ∧ wr.cell? ⟨bSave, 0, none⟩ = some (.int .i64 0)) (fun _ wr => leftAt bS wr)
  case atStart => exact ⟨ls.length + 1, [], ls, rfl, Nat.lt_succ_self _, hls, h0, Nat.le_refl _, hM1, c1, c2, f2, c3⟩
  case round =>
    obtain ⟨f, pre, rest, hx, hf, hr, hJs, hws, hm, d1, d2, e2, d3⟩ := hrel
    obtain ⟨f, rfl⟩ : ∃ k, f = k + 1 := ⟨f - 1, by omega⟩
    clear c1 c2 c3 f2
    have HM := Lib.hid hm
    have HIX := Lib.hid (fun w h => index_any ⟨rest.toArray⟩ ⟨#[32]⟩ w h (by show rest.length < _; omega))
    rw [splitGo] at hx
    obtain ⟨z, hz⟩ : ∃ z, Lib.index rest [32] = z := ⟨_, rfl⟩
    have hz2 : Lib.index (⟨rest.toArray⟩ : ByteArray).data.toList (⟨#[32]⟩ : ByteArray).data.toList = z := hz
    rw [hz2] at HIX
    rw [hz] at hx
    have hzl : 0 ≤ z → z + 1 ≤ rest.length := fun h => by have := Lib.index_room rest [32] (by rw [hz]; exact h); rw [hz] at this; simpa using this
    clear hz hz2 hm
    by_cases hneg : z < 0
    · rw [if_pos hneg] at hx
      obtain ⟨fn, tmps, assign, body, hy, hR⟩ := hY pre ⟨rest.toArray⟩ wr hJs (by have := congrArg List.length hx; simp at this; omega)
      gi_wp2_with (refine ⟨trivial, ?_⟩; gi_at_call 167; refine (callsIn_wide.2 (HIX.out _ HM.out)).mono ?_; rintro e w1 ⟨rfl, rfl⟩)
      refine hR.mono ?_
      rintro e W2 ⟨rfl, hJ2, hk2⟩
      gi_wp2
      go_end0
      exact ⟨⟨_, rfl⟩, splitX ls, rfl, by rw [hx]; exact hJ2⟩
    · rw [if_neg hneg] at hx
      obtain ⟨i, rfl⟩ : ∃ i : Nat, z = (i : Int) := ⟨z.toNat, by omega⟩
      have hil := hzl (by omega)
      have hw1 : IntKind.i64.wrap (i : Int) = (i : Int) := by rw [IntKind.wrap_i64]; omega
      have hw2 : IntKind.i64.wrap ((i : Int) + 1) = (i : Int) + 1 := by rw [IntKind.wrap_i64]; omega
      have hi0 : (0 : Int) ≤ (i : Int) := by omega
      have hi1 : (i : Int) ≤ (rest.length : Int) := by omega
      have hi2 : (i : Int) + 1 ≤ (rest.length : Int) := by omega
      have hi3 : (0 : Int) ≤ (i : Int) + 1 := by omega
      rw [Int.toNat_natCast] at hx
      have hsz : (⟨rest.toArray⟩ : ByteArray).size = rest.length := rfl
      obtain ⟨fn, tmps, assign, body, hy, hR⟩ := hY pre ((⟨rest.toArray⟩ : ByteArray).extract 0 i) wr hJs (by have := congrArg List.length hx; simp at this; omega)
      gi_wp2_with (refine ⟨trivial, ?_⟩; gi_at_call 167; refine (callsIn_wide.2 (HIX.out _ HM.out)).mono ?_; rintro e w1 ⟨rfl, rfl⟩)
      refine hR.mono ?_
      rintro e W2 ⟨rfl, hJ2, hk2⟩
      have g1 := hk2.cell (by omega) (by omega) d1
      have g2 := hk2.cell (by omega) (by omega) d2
      have g3 := hk2.cell (by omega) (by omega) d3
      have e3 := (hk2.frozen (i := 0) (show bS ≠ bW by omega) (by omega)).trans e2
      gi_wp2
      go_roundw
      case rel =>
        have hc2 : W2.cell? ⟨2, 0, none⟩ = w1.cell? ⟨2, 0, none⟩ := World.cell?_of_block (a := ⟨2, 0, none⟩) (hk2.2 2 (by omega) (by omega))
        obtain ⟨mm, hmm⟩ := HM.out
        refine ⟨f, pre ++ [(⟨rest.toArray⟩ : ByteArray).extract 0 i], rest.drop (i + 1), ?_, by rw [List.length_drop]; omega, by rw [List.length_drop]; omega, hJ _ W2 _ (some bS) hJ2 (grownBy_setCell' W2 bS _) (fun r e => by cases e; rfl), ?_, ⟨mm, ?_⟩, ?_, ?_, ?_, ?_⟩
        · rw [hx, extract_take]
          simp
        · have := hk2.1
          rw [World.size_setCell]
          omega
        · rw [World.cell?_setCell_other (h := addr_ne (show bS ≠ 2 by omega))]
          exact hc2.trans hmm
        · rw [World.cell?_setCell_other (h := addr_ne (show bS ≠ bSep by omega))]
          exact g1
        · rw [extract_drop]
          exact World.cell?_setCell_same' _ _ _ (by rw [g2]; rfl)
        · rw [World.frozen?_setCell]
          exact e3
        · rw [World.cell?_setCell_other (h := addr_ne (show bS ≠ bSave by omega))]
          exact g3
      case measure =>
        have q1 : leftAt bS w1 = rest.length := by unfold leftAt; rw [d2]; rfl
        have q2 : leftAt bS (W2.setCell ⟨bS, 0, none⟩ (.string ((⟨rest.toArray⟩ : ByteArray).extract (i + 1) rest.length))) = (rest.drop (i + 1)).length := by
          unfold leftAt
          rw [World.cell?_setCell_same' _ _ _ (by rw [g2]; rfl), extract_drop]
          rfl
        rw [q1, q2, List.length_drop]
        omega
end Go.Proofs.YtegbhdeaicgpkaaGreatDoor
namespace Go.Proofs.YtegbhdeaicgpkaaGreatDoor
open Go Go.RowKit Go.Shelf
attribute [local go_sem] Oper.semAt_some
theorem splitGo_len : ∀ (f : Nat) (l : List UInt8), (splitGo f l).length ≤ f + 1
  | 0, l => by simp [splitGo]
  | f + 1, l => by
    rw [splitGo]
    split
    · simp
    · have := splitGo_len f (l.drop ((Lib.index l [32]).toNat + 1))
      simp only [List.length_cons]
      omega
theorem splitGo_le : ∀ (f : Nat) (l x : List UInt8), x ∈ splitGo f l → x.length ≤ l.length
  | 0, l, x, h => by
    simp only [splitGo, List.mem_singleton] at h
    rw [h]
    exact Nat.le_refl _
  | f + 1, l, x, h => by
    rw [splitGo] at h
    split at h
    · simp only [List.mem_singleton] at h
      rw [h]
      exact Nat.le_refl _
    · rcases List.mem_cons.1 h with rfl | h
      · rw [List.length_take]
        omega
      · have := splitGo_le f _ x h
        rw [List.length_drop] at this
        omega
theorem join_le (sep : List UInt8) (m : Nat) : ∀ xs : List (List UInt8), (∀ x ∈ xs, x.length ≤ m) → (Lib.join xs sep).length ≤ xs.length * (m + sep.length)
  | [], _ => by simp [Lib.join_nil]
  | [x], h => by
    rw [Lib.join_one]
    have := h x List.mem_cons_self
    simp
    omega
  | x :: y :: r, h => by
    have h1 := h x List.mem_cons_self
    have h2 := join_le sep m (y :: r) (fun z hz => h z (List.mem_cons_of_mem _ hz))
    have e : Lib.join (x :: y :: r) sep = x ++ sep ++ Lib.join (y :: r) sep := by simp [Lib.join, List.intercalate]
    rw [e, List.length_append, List.length_append]
    simp only [List.length_cons] at h2 ⊢
    have e2 : (r.length + 1 + 1) * (m + sep.length) = (r.length + 1) * (m + sep.length) + (m + sep.length) := by rw [Nat.succ_mul]
    omega
def wordsOf (xs : List ByteArray) : List ByteArray := xs.filter fun x => !x.toList.isEmpty
def trimX (s : ByteArray) : ByteArray := ⟨(Lib.join ((wordsOf (splitX s.data.toList)).map (·.data.toList)) [32]).toArray⟩
theorem words_hit (pre : List ByteArray) {x : ByteArray} (h : x.toList.isEmpty = false) : wordsOf (pre ++ [x]) = wordsOf pre ++ [x] := by simp [wordsOf, h]
theorem words_miss (pre : List ByteArray) {x : ByteArray} (h : x.toList.isEmpty = true) : wordsOf (pre ++ [x]) = wordsOf pre := by simp [wordsOf, h]
theorem infoStr : (Tryz.prog.info? 9).map (fun i => (i.zero, i.size, i.bytes)) = some (some (.string ⟨#[]⟩), 1, 16) := by kernel_rfl
theorem split_new (s : ByteArray) (w : World) : Calls Tryz.prog 220 #[.string s, .string ⟨#[32]⟩, .int .i64 0] w fun e w' => e = .returned (.func (.func 256) #[] #[.pointer (some ⟨w.heap.size + 1, 0, none⟩), .pointer (some ⟨w.heap.size, 0, none⟩), .pointer (some ⟨w.heap.size + 2, 0, none⟩)]) ∧
    w' = ((w.alloc (.cells #[.string s] 9)).alloc (.cells #[.string ⟨#[32]⟩] 9)).alloc (.cells #[.int .i64 0] 3) := by
  go_enter Tryz.func220, Tryz.ntmps220
  go_wp2
  all_goals go_returns
  all_goals exact ⟨rfl, rfl⟩
theorem split_call (s : ByteArray) (w : World) : Calls Tryz.prog 165 #[.string s, .string ⟨#[32]⟩] w fun e w' => e = .returned (.func (.func 256) #[] #[.pointer (some ⟨w.heap.size + 1, 0, none⟩), .pointer (some ⟨w.heap.size, 0, none⟩), .pointer (some ⟨w.heap.size + 2, 0, none⟩)]) ∧
    w' = ((w.alloc (.cells #[.string s] 9)).alloc (.cells #[.string ⟨#[32]⟩] 9)).alloc (.cells #[.int .i64 0] 3) := by
  go_enter Tryz.func165, Tryz.ntmps165
  go_wp2_with (go_at_call 220; refine (split_new s _).mono ?_; rintro e w1 ⟨rfl, rfl⟩)
  all_goals go_returns
  all_goals exact ⟨rfl, rfl⟩
theorem join_words (ws : List ByteArray) (v : Value) (base : Nat) (w : World) (h : w.ownsRow base 9 1 v ws.length (ws.map Value.string)) (hl : ws.length ≤ 1048600) (hx : ∀ x ∈ ws, x.size ≤ 1048576) :
    Calls Tryz.prog 166 #[v, .string ⟨#[32]⟩] w fun e w' => e = .returned (.string ⟨(Lib.join (ws.map (·.data.toList)) [32]).toArray⟩) ∧ Below w.heap.size w w' := by
  have hlen : (Lib.join (ws.map (·.data.toList)) [32]).length ≤ 140737488355328 := by
    have h1 := join_le [32] 1048576 (ws.map (·.data.toList)) (fun y hy => by
      obtain ⟨x, hm, rfl⟩ := List.mem_map.1 hy
      have := hx x hm
      show x.data.toList.length ≤ _
      rw [Array.length_toList]
      exact this)
    rw [List.length_map] at h1
    simp only [List.length_cons, List.length_nil] at h1
    have h2 : ws.length * (1048576 + (0 + 1)) ≤ 1048600 * (1048576 + (0 + 1)) := Nat.mul_le_mul_right _ hl
    omega
  rcases h.2 with ⟨rfl, h0⟩ | ⟨g, cap, cur, rfl, hb, hg, hnc, _, _, _⟩
  · obtain rfl : ws = [] := List.length_eq_zero_iff.1 h0
    refine (Tryz.strings_Join_none none 0 ⟨#[32]⟩ w).mono ?_
    rintro e w' ⟨rfl, rfl⟩
    exact ⟨rfl, Below.refl _ _⟩
  · have hlt : g < w.heap.size := (Array.getElem?_eq_some_iff.1 hg).1
    exact Tryz.strings_Join g 0 cap ws ⟨#[32]⟩ w (fun j x hj => by
      have := h.cells (g := g) rfl j (.string x) (by simp [hj])
      have e : (⟨g, 0, none⟩ : Addr).add j = ⟨g, 0 + j, none⟩ := by unfold Addr.add; split <;> simp_all
      rw [e] at this
      exact this) hlt (by omega) hnc hlen
theorem box_appended {W w1 : World} {n₀ b0 B : Nat} {t e : TypeId} {size : Nat} {v v' : Value} {k m : Nat} {xs ys : List Value} {tmp : Obj}
    (hv : Boxed W B t v) (hte : t ≠ e) (hrow : W.ownsRow n₀ e size v k xs) (hn₀ : n₀ ≤ W.heap.size) (hB : b0 ≤ B) (hb0 : b0 ≤ n₀)
    (hown' : w1.ownsRow n₀ e size v' m ys) (hgrow : (W.alloc tmp).grownBy w1 v.ownBlock) :
    Boxed w1 B t v ∧ Boxed (w1.setCell ⟨B, 0, none⟩ v') B t v' ∧ (w1.setCell ⟨B, 0, none⟩ v').ownsRow n₀ e size v' m ys ∧ KeepsOthers W (w1.setCell ⟨B, 0, none⟩ v') ∧ Below b0 W (w1.setCell ⟨B, 0, none⟩ v') ∧ KeptBut B n₀ W (w1.setCell ⟨B, 0, none⟩ v') := by
  have hv1 : Boxed w1 B t v := (hv.alloc tmp).kept hgrow (hv.not_row hte hrow)
  have hge : ∀ j, v.ownBlock = some j → n₀ ≤ j := fun j ej => by
    rcases hrow.2 with ⟨rfl, _⟩ | ⟨g, cap, cur, rfl, hb, _, _⟩
    · simp [Value.ownBlock] at ej
    · obtain rfl : g = j := by simpa [Value.ownBlock] using ej
      exact hb
  refine ⟨hv1, hv1.set v', hown'.kept (grownBy_setCell' w1 B v') (.inr (hv1.not_row hte hown').symm), ?_, ?_, ?_, ?_⟩
  · refine ((KeepsOthers.alloc W tmp).trans (KeepsOthers.of_grownBy hgrow fun j o ej hj => ?_)).trans (KeepsOthers.setCell _ _ _)
    rcases (hrow.alloc tmp).2 with ⟨rfl, _⟩ | ⟨g, cap, cur, rfl, _, hgb, _⟩
    · simp [Value.ownBlock] at ej
    · obtain rfl : g = j := by simpa [Value.ownBlock] using ej
      rw [hgb] at hj; cases hj; rfl
  · exact (((Below.refl b0 W).alloc (by omega) tmp).grown hgrow (by simp; omega) fun j ej => Nat.le_trans hb0 (hge j ej)).setCell (p := ⟨B, 0, none⟩) hB v'
  · have h1 := hgrow.size
    simp only [World.size_alloc, World.size_setCell] at h1 ⊢
    omega
  · intro j hj hjn
    have h1 : (W.alloc tmp).heap[j]? = W.heap[j]? := Lib.alloc_old W tmp j (by omega)
    have h2 : w1.heap[j]? = (W.alloc tmp).heap[j]? := hgrow.block j (by simp; omega) (fun e => by have := hge j e.symm; omega)
    have h3 : (w1.setCell ⟨B, 0, none⟩ v').heap[j]? = w1.heap[j]? := (grownBy_setCell' w1 B v').block j (by have := hgrow.size; simp at this; omega) (fun e => hj (by cases e; rfl))
    exact h3.trans (h2.trans h1)
set_option maxRecDepth 100000 in
set_option maxHeartbeats 1048576 in
theorem texts_trim (s : ByteArray) (hs : s.size ≤ 1048576) (w : World) (hM : MaxL w) : Calls Tryz.prog 89 #[.string s] w fun e w' => e = .returned (.string (trimX s)) ∧ Below w.heap.size w w' := by
  obtain ⟨i0, hi, hz0, hz1, hz2⟩ := info_parts infoStr
  have h2 : 2 < w.heap.size := by obtain ⟨m, hm⟩ := hM; exact World.block_lt_of_cell? w _ hm
  have hpl : (splitX s.data.toList).length ≤ 1048578 := by
    have := splitGo_len (s.data.toList.length + 1) s.data.toList
    rw [splitX, List.length_map]
    rw [show s.data.toList.length = s.size by rw [Array.length_toList]; rfl] at this ⊢
    omega
  refine (callsIn_wide (n := 4)).1 ?_
  refine callsIn_of_wp_marks Tryz.func89 rfl trivial ?_ rfl
  simp only [Tryz.ntmps89, List.size_toArray, List.length_cons, List.length_nil, Nat.reduceAdd, Nat.reduceSub, Array.replicate_succ, Array.replicate_zero, List.push_toArray, List.append_toArray, List.nil_append, List.cons_append]
  gi_wp2_with (refine ⟨trivial, ?_⟩; gi_at_call 165; refine (callsIn_wide.2 (split_call s _)).mono ?_; rintro e w' ⟨rfl, rfl⟩)
  obtain ⟨W0, hW0⟩ : ∃ W0, (((w.alloc (.cells #[.slice none 0 0] 105)).alloc (.cells #[.string s] 9)).alloc (.cells #[.string ⟨#[32]⟩] 9)).alloc (.cells #[.int .i64 0] 3) = W0 := ⟨_, rfl⟩
  have hsz : W0.heap.size = w.heap.size + 4 := by rw [← hW0]; simp
  have hB0 : Below w.heap.size w W0 := by rw [← hW0]; exact (by (with_reducible repeat' (first | exact .refl _ _ | assumption | refine bmP ?_ ?_ | refine baP ?_ _ ?_ | refine .drew ?_ | refine .setCell ?_ ?_ _ | refine bdP ?_ _)) <;> go_size)
  have bW : Boxed W0 w.heap.size 105 (.slice none 0 0) := by rw [← hW0]; exact (((Boxed.new w _ _).alloc _).alloc _).alloc _
  have b1 := Boxed.new (w.alloc (.cells #[.slice none 0 0] 105)) 9 (.string s)
  have b2 := Boxed.new ((w.alloc (.cells #[.slice none 0 0] 105)).alloc (.cells #[.string s] 9)) 9 (.string ⟨#[32]⟩)
  have b3 := Boxed.new (((w.alloc (.cells #[.slice none 0 0] 105)).alloc (.cells #[.string s] 9)).alloc (.cells #[.string ⟨#[32]⟩] 9)) 3 (.int .i64 0)
  simp only [World.size_alloc] at b1 b2 b3
  have b1 := (b1.alloc (.cells #[.string ⟨#[32]⟩] 9)).alloc (.cells #[.int .i64 0] 3)
  have b2 := b2.alloc (.cells #[.int .i64 0] 3)
  rw [hW0] at b1 b2 b3
  have k1 := b1.cell
  have k2 := b2.cell
  have k3 := b3.cell
  have kf := b1.frozen
  rw [← mk_data s] at k1
  have hM0 := hM.below hB0
  have hseq := split_seq 3 (by decide) (w.heap.size + 2) (w.heap.size + 1) (w.heap.size + 3) w.heap.size (w.heap.size + 4) (by omega) (by omega) h2 (by omega) (by omega) s.data.toList (by rw [Array.length_toList]; exact hs) W0 (by omega) hM0 k2 k1 kf k3
  have hpx : ∀ x ∈ splitX s.data.toList, x.size ≤ 1048576 := by
    intro x hx
    obtain ⟨y, hy, rfl⟩ := List.mem_map.1 hx
    have := splitGo_le _ _ y hy
    rw [Array.length_toList] at this
    exact Nat.le_trans this hs
  rw [hW0]
  refine range_own rfl (by decide) (gf := 256) (lb := #[.pointer (some ⟨w.heap.size + 2, 0, none⟩), .pointer (some ⟨w.heap.size + 1, 0, none⟩), .pointer (some ⟨w.heap.size + 3, 0, none⟩)]) rfl trivial (enters_of Tryz.func256 (by kernel_rfl) rfl) hseq (by omega) ?kt ?kb (fun _ => rfl)
    (fun pre W => (∃ v, Boxed W w.heap.size 105 v ∧ W.ownsRow W0.heap.size 9 1 v (wordsOf pre).length ((wordsOf pre).map Value.string)) ∧ Below w.heap.size w W ∧ W0.heap.size ≤ W.heap.size) ?own ?start
    (fun x => { tmps := #[.string s, undef, .string ⟨#[]⟩, .pointer (some ⟨w.heap.size, 0, none⟩), .string x, .string s, .func (.func 256) #[] #[.pointer (some ⟨w.heap.size + 2, 0, none⟩), .pointer (some ⟨w.heap.size + 1, 0, none⟩), .pointer (some ⟨w.heap.size + 3, 0, none⟩)], .string x, undef, undef, undef, undef, undef, undef, undef, undef], defers := [] }) ?assign ?body ?done
  case kt => exact fun h k => ⟨Nat.le_trans h.1 k.1, fun j hj h2 => (k.2 j hj h2).trans (h.2 j hj h2)⟩
  case kb => exact fun W l o' hl => ⟨by simp [World.putObj], fun j _ h2 => World.putObj_heap_other (by omega)⟩
  case own =>
    rintro pre A B row ⟨⟨v, hv, hr⟩, hb, hsz2⟩ hg hrow
    refine ⟨⟨v, hv.kept hg (fun e => ?_), hr.kept hg ?_⟩, hb.grown hg (by have := hb.size; omega) (fun k e => ?_), by have := hg.size; omega⟩
    · rcases hrow _ e.symm with h | h
      · omega
      · omega
    · rcases hr.2 with ⟨rfl, _⟩ | ⟨g, cap, cur, rfl, hge, hgb, _⟩
      · exact .inl rfl
      · refine .inr fun e' => ?_
        rcases hrow g e'.symm with h | ⟨_, o, ho, hc⟩
        · omega
        · rw [hgb] at ho
          cases ho
          cases hc
    · rcases hrow _ e with h | h
      · omega
      · omega
  case start => exact ⟨⟨_, bW, World.ownsRow_nil _ _ _ _⟩, hB0, Nat.le_refl _⟩
  case assign =>
    intro l x W K hK
    gi_wp2
    exact hK
  case body =>
    rintro l pre x W ⟨⟨v, hv, hrow⟩, hB, hsz2⟩ hlt
    have hc := hv.cell
    have hwl : (wordsOf pre).length ≤ pre.length := List.length_filter_le _ _
    have hml : maxLen = 9223372036854775807 := by decide
    cases hx : x.toList.isEmpty with
    | false =>
      gi_wp2_with (gi_at_builtin; refine wpListIn_append_own _ rfl _ _ 105 rfl W0.heap.size 9 i0 (.string ⟨#[]⟩) 1 16 Tryz.underlying105 hi hz0 hz1 hz2 rfl (by decide) _ _ _ rfl (hrow.alloc _) ⟨W.heap.size, 0, none⟩ 1 1 [.string x] rfl rfl (cell_one_new _ _ _) (by simp [Value.oneCell']) (by omega) (by omega) (by simp; omega) ?_; intro v' w1 hown' hgrow _; obtain ⟨g', cap', rfl⟩ := ownsRow_succ hown'; obtain ⟨hv1, hv2, hr2, hk2, hb2, hkb⟩ := box_appended (b0 := w.heap.size) hv (by decide) hrow hsz2 (Nat.le_refl _) (by omega) hown' hgrow; have hc1 := hv1.cell; have hf1 := hv1.frozen)
      exact ⟨hk2, ⟨hkb.1, fun j hj h3 => hkb.2 j hj (by omega)⟩, ⟨_, hv2, by rw [words_hit pre hx]; simpa using hr2⟩, hB.trans hb2, by have := hkb.1; omega⟩
    | true =>
      gi_wp2
      exact ⟨KeepsOthers.refl _, ⟨Nat.le_refl _, fun _ _ _ => rfl⟩, ⟨v, hv, by rw [words_miss pre hx]; exact hrow⟩, hB, hsz2⟩
  case done =>
    rintro D ys W hD rfl ⟨⟨v, hv, hrow⟩, hB, hsz2⟩ hK
    have hc := hv.cell
    have hwl : (wordsOf (splitX s.data.toList)).length ≤ 1048600 := by
      have : (wordsOf (splitX s.data.toList)).length ≤ (splitX s.data.toList).length := List.length_filter_le _ _
      omega
    have hjw := join_words _ v _ W hrow hwl (fun x hx => hpx x (List.mem_filter.1 hx).1)
    gi_wp2_with (refine ⟨trivial, ?_⟩; gi_at_call 166; refine (callsIn_wide.2 hjw).mono ?_; rintro e w1 ⟨rfl, hb⟩)
    have hK1 : w1.heap[D]? = some (.deferred (some [])) := (hb.block D (Array.getElem?_eq_some_iff.1 hK).1).trans hK
    refine ⟨by simp, .inl ⟨_, _, rfl, run_takeDeferred hK1, ?_⟩⟩
    refine ⟨_, results_tmp rfl _ _ _, rfl, ?_⟩
    exact (hB.trans (hb.mono hB.size)).trans (belowK_b (w := w) (Nat.le_refl _) w1 D _ _ (by omega) hK1 rfl rfl)
end Go.Proofs.YtegbhdeaicgpkaaGreatDoor
