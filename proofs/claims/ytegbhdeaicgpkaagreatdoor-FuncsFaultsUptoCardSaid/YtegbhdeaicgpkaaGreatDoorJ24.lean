/-
  Parts of a proof: NumsI, TextsA, TextsB.
-/
import Derived.Test.YtegbhdeaicgpkaaGreatDoorJ22
import Derived.Test.YtegbhdeaicgpkaaGreatDoorJ23
import Derived.Test.YtegbhdeaicgpkaaGreatDoorJ12
import Derived.Test.YtegbhdeaicgpkaaGreatDoorJ05
set_option linter.all false
namespace Go.Proofs.YtegbhdeaicgpkaaGreatDoor
open Go Go.RowKit
def I (l : List Int) : List Value := l.map fun x => .int .i64 x
def wN (x : Int) : Nat := (wholeG x).1.natAbs
def allW (l : List Int) : Bool := l.all fun x => (wholeG x).2
theorem allW_take {l : List Int} {j : Nat} {a : Int} (h : l[j]? = some a) : allW (l.take (j + 1)) = (allW (l.take j) && (wholeG a).2) := by
  unfold allW
  rw [take1 h]
  simp
theorem allW_false {l : List Int} {j : Nat} {a : Int} (h : l[j]? = some a) (h2 : (wholeG a).2 = false) : allW l = false := by
  unfold allW
  rw [List.all_eq_false]
  exact ⟨a, List.mem_of_getElem? h, by simp [h2]⟩
theorem whole_63 (x : Int) (hx : Is64 x) : In63 (wholeG x).1 := by
  have := whole_64 x hx
  unfold In63
  omega
set_option maxRecDepth 100000 in
set_option maxHeartbeats 600000 in
theorem nums_wholes (l : List Int) (hl : ∀ x ∈ l, In63 x) (hn : l.length ≤ 1000) (g c : Nat) (w : World) (h : AtB w g (I l)) (hg : g < w.heap.size) :
    Calls Tryz.prog 158 #[.slice (some ⟨g, 0, none⟩) l.length c] w fun e w' => (∃ r, e = .returned (.tuple #[r, .bool (allW l)]) ∧ (allW l = true → Words w' r (l.map wN))) ∧ Below w.heap.size w w' := by
  obtain ⟨i0, hi, hz0, hz1, hz2⟩ := info_parts info_U
  obtain ⟨n, hln⟩ : ∃ n, l.length = n := ⟨_, rfl⟩
  rw [hln] at hn ⊢
  have HL := Lib.hid hl
  have HA := Lib.hid h
  have HN := Lib.hid hln
  clear hl h
  go_enter Tryz.func158, Tryz.ntmps158
  go_wp2
  go_loopw [11, 4] (fun t v wr => ∃ j : Nat, j ≤ n ∧ t = .int .i64 j ∧ allW (l.take j) = true ∧ StkRel w wr 157 1 v j (U ((l.take j).map wN))) (fun t _ _ => n - (intOf t).toNat)
  case atStart => exact ⟨0, Nat.zero_le _, rfl, rfl, Below.refl _ _, World.ownsRow_nil _ _ _ _⟩
  case round =>
    obtain ⟨j, hj, rfl, hall, hR⟩ := hrel
    have HS := Lib.hid hR
    have HALL := Lib.hid hall
    have hsz := hR.1.size
    clear hR hall
    by_cases hlt : j < n
    · obtain ⟨a, ha⟩ : ∃ a, l[j]? = some a := ⟨_, List.getElem?_eq_getElem (show j < l.length by omega)⟩
      have c0 : wr.cell? ⟨g, j, none⟩ = some (.int .i64 a) := by
        have h1 := HA.out j _ (show (I l)[j]? = some (.int .i64 a) by simp [I, ha])
        exact (HS.out.1.cell (p := ⟨g, _, none⟩) (World.block_lt_of_cell? w _ h1)).trans h1
      have ha63 := (HL.out a (List.mem_of_getElem? ha)).to64
      have HW63 := Lib.hid (whole_63 a ha63)
      have HA63 := Lib.hid ha63
      have HAJ := Lib.hid ha
      clear ha ha63
      cases hb : (wholeG a).2
      · have HF := Lib.hid (allW_false HAJ.out hb)
        go_wp2_with (first | (go_at_call 36; refine (dec_Whole a HA63.out.1 HA63.out.2 _).mono ?_; rintro e w1 ⟨rfl, rfl⟩))
        go_returns
        exact ⟨⟨.slice none 0 0, by rw [HF.out]; rfl, fun h => by rw [HF.out] at h; cases h⟩, HS.out.1⟩
      · have HT := Lib.hid (show allW (l.take (j + 1)) = true by rw [allW_take HAJ.out, HALL.out, hb]; rfl)
        go_wp2_with (first | (go_at_call 36; refine (dec_Whole a HA63.out.1 HA63.out.2 _).mono ?_; rintro e w1 ⟨rfl, rfl⟩) | (go_at_call 155; refine (nums_size _ HW63.out _).mono ?_; rintro e w1 ⟨rfl, rfl⟩) | (at_builtin; refine wpList_append_own _ rfl _ _ 185 rfl w.heap.size 157 i0 _ 1 8 Tryz.underlying185 hi hz0 hz1 hz2 rfl (by decide) _ _ _ rfl (stk_below HS.out.2 (by (with_reducible repeat' (first | exact .refl _ _ | assumption | refine bmP ?_ ?_ | refine baP ?_ _ ?_ | refine .drew ?_ | refine .setCell ?_ ?_ _ | refine bdP ?_ _)) <;> go_size)) _ 1 1 (U [wN a]) rfl rfl ?_ ?_ ?_ ?_ ?_ ?_))
        · exact fun i u hu => stk_fresh (by simp) i u hu
        · exact U_one _
        · simp only [maxLen]; omega
        · omega
        · have h1 := HS.out.1.size
          simp at h1 ⊢
          try omega
        · intro v' w1 hown' hgrow _
          have R := StkRel.step HS.out (by (with_reducible repeat' (first | exact .refl _ _ | assumption | refine bmP ?_ ?_ | refine baP ?_ _ ?_ | refine .drew ?_ | refine .setCell ?_ ?_ _ | refine bdP ?_ _)) <;> go_size) (show w1.ownsRow w.heap.size 157 1 v' (j + 1) (U ((l.take j).map wN) ++ U [wN a]) from by simpa using hown') hgrow
          rw [← U_append, show (l.take j).map wN ++ [wN a] = (l.take (j + 1)).map wN by rw [take1 HAJ.out]; simp] at R
          have HS' := Lib.hid R
          clear hown' hgrow R HS c0
          go_wp2
          go_roundw
          case rel => exact ⟨j + 1, by omega, by go_num, HT.out, HS'.out⟩
          case measure => simp [intOf]; omega
    · obtain rfl : j = n := by omega
      have hS := HS.out
      have hall := HALL.out
      rw [List.take_of_length_le (by omega)] at hS hall
      have HS2 := Lib.hid hS
      have HAL2 := Lib.hid hall
      clear hS HS HALL hall
      go_wp2
      go_returns
      refine ⟨⟨u4, by rw [HAL2.out]; rfl, fun _ => own_words (base := w.heap.size) ?_⟩, HS2.out.1⟩
      have e : (l.map wN).length = j := by rw [List.length_map, HN.out]
      rw [e]
      exact HS2.out.2
end Go.Proofs.YtegbhdeaicgpkaaGreatDoor
namespace Go.Proofs.YtegbhdeaicgpkaaGreatDoor
open Go Go.RowKit
def giv (sv nv : Value) (text : Int) : Value := .agg #[sv, nv, .int .i64 text]
def toldX (text : Int) (s : ByteArray) : V := if text < s.size then errG 7 else txtG s
theorem texts_told (sv nv : Value) (text : Int) (s : ByteArray) (w : World) : Calls Tryz.prog 163 #[.agg #[sv, nv, .int .i64 text], .string s] w fun e w' => e = .returned (Value.agg #[Value.int .i64 (toldX text s).tag, Value.int .i64 (toldX text s).num, Value.string (toldX text s).str, Value.bool (toldX text s).is, Value.int .i64 (toldX text s).code]) ∧ Below w.heap.size w w' := by
  unfold toldX
  by_cases h : text < s.size
  · rw [if_pos h]
    go_enter Tryz.func163, Tryz.ntmps163
    go_wp2_with (first | (go_at_call 27; refine (value_Err _ _).mono ?_; rintro e w1 ⟨rfl, hb⟩; obtain ⟨l, n, rfl⟩ := more_of_below hb; clear hb))
    all_goals go_returns
    all_goals exact ⟨rfl, (by (with_reducible repeat' (first | exact .refl _ _ | assumption | refine bmP ?_ ?_ | refine baP ?_ _ ?_ | refine .drew ?_ | refine .setCell ?_ ?_ _ | refine bdP ?_ _)) <;> go_size)⟩
  · rw [if_neg h]
    go_enter Tryz.func163, Tryz.ntmps163
    go_wp2_with (first | (go_at_call 137; refine (value_Txt _ _).mono ?_; rintro e w1 ⟨rfl, hb⟩; obtain ⟨l, n, rfl⟩ := more_of_below hb; clear hb))
    all_goals go_returns
    all_goals exact ⟨rfl, (by (with_reducible repeat' (first | exact .refl _ _ | assumption | refine bmP ?_ ?_ | refine baP ?_ _ ?_ | refine .drew ?_ | refine .setCell ?_ ?_ _ | refine bdP ?_ _)) <;> go_size)⟩
theorem texts_count0 (sv : Value) (A : Option Addr) (c : Nat) (text : Int) (w : World) : Calls Tryz.prog 162 #[.agg #[sv, .slice A 0 c, .int .i64 text]] w fun e w' => e = .returned (.tuple #[.int .i64 1, .bool true]) ∧ Below w.heap.size w w' := by
  go_enter Tryz.func162, Tryz.ntmps162
  go_wp2
  all_goals go_returns
  all_goals exact ⟨rfl, (by (with_reducible repeat' (first | exact .refl _ _ | assumption | refine bmP ?_ ?_ | refine baP ?_ _ ?_ | refine .drew ?_ | refine .setCell ?_ ?_ _ | refine bdP ?_ _)) <;> go_size)⟩
theorem texts_count1 (sv : Value) (gn c : Nat) (n text : Int) (w : World) (h : w.cell? ⟨gn, 0, none⟩ = some (.int .i64 n)) : Calls Tryz.prog 162 #[.agg #[sv, .slice (some ⟨gn, 0, none⟩) 1 c, .int .i64 text]] w fun e w' => e = .returned (.tuple #[.int .i64 n, .bool (decide (0 ≤ n))]) ∧ Below w.heap.size w w' := by
  have hl : gn < w.heap.size := World.block_lt_of_cell? w _ h
  go_enter Tryz.func162, Tryz.ntmps162
  go_wp2
  all_goals go_returns
  all_goals exact ⟨rfl, (by (with_reducible repeat' (first | exact .refl _ _ | assumption | refine bmP ?_ ?_ | refine baP ?_ _ ?_ | refine .drew ?_ | refine .setCell ?_ ?_ _ | refine bdP ?_ _)) <;> go_size)⟩
def wholeT (n : Int) : V := numG (IntKind.i64.wrap (n * 10000))
theorem texts_whole (n : Int) (hn : Is64 n) (w : World) : Calls Tryz.prog 81 #[.int .i64 n] w fun e w' => e = .returned (Value.agg #[Value.int .i64 (wholeT n).tag, Value.int .i64 (wholeT n).num, Value.string (wholeT n).str, Value.bool (wholeT n).is, Value.int .i64 (wholeT n).code]) ∧ Below w.heap.size w w' := by
  have h1 : IntKind.i64.wrap n = n := by unfold Is64 at hn; rw [IntKind.wrap_i64]; omega
  obtain ⟨z, hz⟩ : ∃ z, IntKind.i64.wrap (n * 10000) = z := ⟨_, rfl⟩
  unfold wholeT
  rw [hz]
  go_enter Tryz.func81, Tryz.ntmps81
  go_wp2_with (first | (go_at_call 56; refine (value_Num _ _).mono ?_; rintro e w1 ⟨rfl, hb⟩; obtain ⟨l, m, rfl⟩ := more_of_below hb; clear hb))
  all_goals go_returns
  all_goals exact ⟨rfl, (by (with_reducible repeat' (first | exact .refl _ _ | assumption | refine bmP ?_ ?_ | refine baP ?_ _ ?_ | refine .drew ?_ | refine .setCell ?_ ?_ _ | refine bdP ?_ _)) <;> go_size)⟩
theorem texts_len (gs c : Nat) (k : Nat) (hk : 0 < k) (nv : Value) (text : Int) (s : ByteArray) (hs : s.size ≤ 9223372036854775807) (w : World) (h : w.cell? ⟨gs, 0, none⟩ = some (.string s)) : Calls Tryz.prog 80 #[.agg #[.slice (some ⟨gs, 0, none⟩) k c, nv, .int .i64 text]] w fun e w' => e = .returned (Value.agg #[Value.int .i64 (wholeT s.size).tag, Value.int .i64 (wholeT s.size).num, Value.string (wholeT s.size).str, Value.bool (wholeT s.size).is, Value.int .i64 (wholeT s.size).code]) ∧ Below w.heap.size w w' := by
  have hl : gs < w.heap.size := World.block_lt_of_cell? w _ h
  have HS := Lib.hid (show Is64 (s.size : Int) from ⟨by omega, by omega⟩)
  have hk' : (0 : Int) < (k : Int) := by omega
  go_enter Tryz.func80, Tryz.ntmps80
  go_wp2_with (first | (go_at_call 81; refine (texts_whole _ HS.out _).mono ?_; rintro e w1 ⟨rfl, hb⟩; obtain ⟨l, m, rfl⟩ := more_of_below hb; clear hb))
  all_goals go_returns
  all_goals exact ⟨rfl, (by (with_reducible repeat' (first | exact .refl _ _ | assumption | refine bmP ?_ ?_ | refine baP ?_ _ ?_ | refine .drew ?_ | refine .setCell ?_ ?_ _ | refine bdP ?_ _)) <;> go_size)⟩
def ordX (s : ByteArray) : V := if s.toList.isEmpty then errG 8 else wholeT ((s.data.toList.getD 0 0).toNat : Nat)
def charX (text n : Int) : V := if n < 0 ∨ 255 < n then errG 8 else toldX text ⟨#[UInt8.ofNat n.toNat]⟩
def leftX (text : Int) (s : ByteArray) (n : Int) : V := if n < 0 then errG 8 else toldX text (s.extract 0 (min n (s.size : Int)).toNat)
def rightX (text : Int) (s : ByteArray) (n : Int) : V := if n < 0 then errG 8 else toldX text (s.extract ((s.size : Int) - min n (s.size : Int)).toNat s.size)
set_option maxRecDepth 100000 in
theorem texts_left (gs c k : Nat) (hk : 0 < k) (nv : Value) (text n : Int) (hn : Is64 n) (s : ByteArray) (hs : s.size ≤ 9223372036854775807) (w : World) (h : w.cell? ⟨gs, 0, none⟩ = some (.string s))
    (hc : ∀ W, Below w.heap.size w W → Calls Tryz.prog 162 #[.agg #[.slice (some ⟨gs, 0, none⟩) k c, nv, .int .i64 text]] W fun e w' => e = .returned (.tuple #[.int .i64 n, .bool (decide (0 ≤ n))]) ∧ Below W.heap.size W w') :
    Calls Tryz.prog 82 #[.agg #[.slice (some ⟨gs, 0, none⟩) k c, nv, .int .i64 text]] w fun e w' => e = .returned (Value.agg #[Value.int .i64 (leftX text s n).tag, Value.int .i64 (leftX text s n).num, Value.string (leftX text s n).str, Value.bool (leftX text s n).is, Value.int .i64 (leftX text s n).code]) ∧ Below w.heap.size w w' := by
  have hl : gs < w.heap.size := World.block_lt_of_cell? w _ h
  have hk' : (0 : Int) < (k : Int) := by omega
  have HC := Lib.hid hc
  clear hc
  unfold leftX
  by_cases hneg : n < 0
  · rw [if_pos hneg]
    have hd : decide (0 ≤ n) = false := by simp; omega
    go_enter Tryz.func82, Tryz.ntmps82
    go_wp2_with (first | (go_at_call 162; refine (HC.out _ (by (with_reducible repeat' (first | exact .refl _ _ | assumption | refine bmP ?_ ?_ | refine baP ?_ _ ?_ | refine .drew ?_ | refine .setCell ?_ ?_ _ | refine bdP ?_ _)) <;> go_size)).mono ?_; rintro e w1 ⟨rfl, hb⟩; obtain ⟨l, m, rfl⟩ := more_of_below hb; clear hb) | (go_at_call 27; refine (value_Err _ _).mono ?_; rintro e w1 ⟨rfl, hb⟩; obtain ⟨l1, m1, rfl⟩ := more_of_below hb; clear hb))
    all_goals go_returns
    all_goals exact ⟨rfl, (by (with_reducible repeat' (first | exact .refl _ _ | assumption | refine bmP ?_ ?_ | refine baP ?_ _ ?_ | refine .drew ?_ | refine .setCell ?_ ?_ _ | refine bdP ?_ _)) <;> go_size)⟩
  · rw [if_neg hneg]
    have hd : decide (0 ≤ n) = true := by simp; omega
    have hq0 : (0 : Int) ≤ min n (s.size : Int) := by omega
    have hq1 : min n (s.size : Int) ≤ (s.size : Int) := by omega
    clear hneg
    go_enter Tryz.func82, Tryz.ntmps82
    go_wp2_with (first | (go_at_call 162; refine (HC.out _ (by (with_reducible repeat' (first | exact .refl _ _ | assumption | refine bmP ?_ ?_ | refine baP ?_ _ ?_ | refine .drew ?_ | refine .setCell ?_ ?_ _ | refine bdP ?_ _)) <;> go_size)).mono ?_; rintro e w1 ⟨rfl, hb⟩; obtain ⟨l, m, rfl⟩ := more_of_below hb; clear hb))
    go_region_held3 (fun w' => w'.cell? ⟨w.heap.size, 0, none⟩ = some (.slice (some ⟨gs, 0, none⟩) k c) ∧ w'.cell? ⟨w.heap.size, 1, none⟩ = some nv ∧ w'.cell? ⟨w.heap.size, 2, none⟩ = some (.int .i64 text) ∧ w'.cell? ⟨gs, 0, none⟩ = some (.string s))
      (first | (go_keep; done) | (go_split_ands; (repeat' refine And.intro ?_ ?_) <;> first | trivial | (go_simp; done) | (repeat (first | assumption | with_reducible refine cell_moreJ ?_ _ _ | with_reducible refine cell_allocJ ?_ _ | with_reducible refine cell_drewJ ?_))))
      (first | (go_at_call 163; refine (texts_told _ _ _ _ _).mono ?_; rintro e w1 ⟨rfl, hb⟩; obtain ⟨l1, m1, rfl⟩ := more_of_below hb; clear hb))
    all_goals go_wp2
    all_goals go_returns
    all_goals exact ⟨rfl, (by (with_reducible repeat' (first | exact .refl _ _ | assumption | refine bmP ?_ ?_ | refine baP ?_ _ ?_ | refine .drew ?_ | refine .setCell ?_ ?_ _ | refine bdP ?_ _)) <;> go_size)⟩
set_option maxRecDepth 100000 in
theorem texts_right (gs c k : Nat) (hk : 0 < k) (nv : Value) (text n : Int) (hn : Is64 n) (s : ByteArray) (hs : s.size ≤ 9223372036854775807) (w : World) (h : w.cell? ⟨gs, 0, none⟩ = some (.string s))
    (hc : ∀ W, Below w.heap.size w W → Calls Tryz.prog 162 #[.agg #[.slice (some ⟨gs, 0, none⟩) k c, nv, .int .i64 text]] W fun e w' => e = .returned (.tuple #[.int .i64 n, .bool (decide (0 ≤ n))]) ∧ Below W.heap.size W w') :
    Calls Tryz.prog 83 #[.agg #[.slice (some ⟨gs, 0, none⟩) k c, nv, .int .i64 text]] w fun e w' => e = .returned (Value.agg #[Value.int .i64 (rightX text s n).tag, Value.int .i64 (rightX text s n).num, Value.string (rightX text s n).str, Value.bool (rightX text s n).is, Value.int .i64 (rightX text s n).code]) ∧ Below w.heap.size w w' := by
  have hl : gs < w.heap.size := World.block_lt_of_cell? w _ h
  have hk' : (0 : Int) < (k : Int) := by omega
  have HC := Lib.hid hc
  clear hc
  unfold rightX
  by_cases hneg : n < 0
  · rw [if_pos hneg]
    have hd : decide (0 ≤ n) = false := by simp; omega
    go_enter Tryz.func83, Tryz.ntmps83
    go_wp2_with (first | (go_at_call 162; refine (HC.out _ (by (with_reducible repeat' (first | exact .refl _ _ | assumption | refine bmP ?_ ?_ | refine baP ?_ _ ?_ | refine .drew ?_ | refine .setCell ?_ ?_ _ | refine bdP ?_ _)) <;> go_size)).mono ?_; rintro e w1 ⟨rfl, hb⟩; obtain ⟨l, m, rfl⟩ := more_of_below hb; clear hb) | (go_at_call 27; refine (value_Err _ _).mono ?_; rintro e w1 ⟨rfl, hb⟩; obtain ⟨l1, m1, rfl⟩ := more_of_below hb; clear hb))
    all_goals go_returns
    all_goals exact ⟨rfl, (by (with_reducible repeat' (first | exact .refl _ _ | assumption | refine bmP ?_ ?_ | refine baP ?_ _ ?_ | refine .drew ?_ | refine .setCell ?_ ?_ _ | refine bdP ?_ _)) <;> go_size)⟩
  · rw [if_neg hneg]
    have hd : decide (0 ≤ n) = true := by simp; omega
    have hq0 : (0 : Int) ≤ min n (s.size : Int) := by omega
    have hq1 : min n (s.size : Int) ≤ (s.size : Int) := by omega
    obtain ⟨q, hq⟩ : ∃ q, min n (s.size : Int) = q := ⟨_, rfl⟩
    rw [hq] at hq0 hq1 ⊢
    obtain ⟨p, hp⟩ : ∃ p, (s.size : Int) - q = p := ⟨_, rfl⟩
    rw [hp]
    have hp0 : (0 : Int) ≤ p := by omega
    have hp1 : p ≤ (s.size : Int) := by omega
    have hw : IntKind.i64.wrap p = p := by rw [IntKind.wrap_i64]; omega
    clear hneg hq0 hq1
    go_enter Tryz.func83, Tryz.ntmps83
    go_wp2_with (first | (go_at_call 162; refine (HC.out _ (by (with_reducible repeat' (first | exact .refl _ _ | assumption | refine bmP ?_ ?_ | refine baP ?_ _ ?_ | refine .drew ?_ | refine .setCell ?_ ?_ _ | refine bdP ?_ _)) <;> go_size)).mono ?_; rintro e w1 ⟨rfl, hb⟩; obtain ⟨l, m, rfl⟩ := more_of_below hb; clear hb))
    go_region_held3 (fun w' => w'.cell? ⟨w.heap.size, 0, none⟩ = some (.slice (some ⟨gs, 0, none⟩) k c) ∧ w'.cell? ⟨w.heap.size, 1, none⟩ = some nv ∧ w'.cell? ⟨w.heap.size, 2, none⟩ = some (.int .i64 text) ∧ w'.cell? ⟨gs, 0, none⟩ = some (.string s))
      (first | (go_keep; done) | (go_split_ands; (repeat' refine And.intro ?_ ?_) <;> first | trivial | (go_simp; done) | (repeat (first | assumption | with_reducible refine cell_moreJ ?_ _ _ | with_reducible refine cell_allocJ ?_ _ | with_reducible refine cell_drewJ ?_))))
      (first | (go_at_call 163; refine (texts_told _ _ _ _ _).mono ?_; rintro e w1 ⟨rfl, hb⟩; obtain ⟨l1, m1, rfl⟩ := more_of_below hb; clear hb))
    all_goals go_wp2
    all_goals go_returns
    all_goals exact ⟨rfl, (by (with_reducible repeat' (first | exact .refl _ _ | assumption | refine bmP ?_ ?_ | refine baP ?_ _ ?_ | refine .drew ?_ | refine .setCell ?_ ?_ _ | refine bdP ?_ _)) <;> go_size)⟩
end Go.Proofs.YtegbhdeaicgpkaaGreatDoor
namespace Go.Proofs.YtegbhdeaicgpkaaGreatDoor
open Go Go.RowKit
def midX (text : Int) (s : ByteArray) (a b : Int) : V := if a < 1 ∨ b < 0 then errG 8 else toldX text ((s.extract (min (a - 1) (s.size : Int)).toNat s.size).extract 0 (min b ((s.extract (min (a - 1) (s.size : Int)).toNat s.size).size : Int)).toNat)
set_option maxRecDepth 100000 in
set_option maxHeartbeats 400000 in
theorem texts_mid (gs c1 gn c2 k : Nat) (hk : 0 < k) (a b text : Int) (ha : Is64 a) (s : ByteArray) (hs : s.size ≤ 9223372036854775807) (w : World) (h : w.cell? ⟨gs, 0, none⟩ = some (.string s)) (h0 : w.cell? ⟨gn, 0, none⟩ = some (.int .i64 a)) (h1 : w.cell? ⟨gn, 1, none⟩ = some (.int .i64 b)) :
    Calls Tryz.prog 84 #[.agg #[.slice (some ⟨gs, 0, none⟩) k c1, .slice (some ⟨gn, 0, none⟩) 2 c2, .int .i64 text]] w fun e w' => e = .returned (Value.agg #[Value.int .i64 (midX text s a b).tag, Value.int .i64 (midX text s a b).num, Value.string (midX text s a b).str, Value.bool (midX text s a b).is, Value.int .i64 (midX text s a b).code]) ∧ Below w.heap.size w w' := by
  have hl : gs < w.heap.size := World.block_lt_of_cell? w _ h
  have hl2 : gn < w.heap.size := World.block_lt_of_cell? w _ h0
  have hk' : (0 : Int) < (k : Int) := by omega
  unfold midX
  by_cases hA : a < 1
  · rw [if_pos (.inl hA)]
    go_enter Tryz.func84, Tryz.ntmps84
    go_wp2_with (first | (go_at_call 27; refine (value_Err _ _).mono ?_; rintro e w1 ⟨rfl, hb⟩; obtain ⟨l1, m1, rfl⟩ := more_of_below hb; clear hb))
    all_goals go_returns
    all_goals exact ⟨rfl, (by (with_reducible repeat' (first | exact .refl _ _ | assumption | refine bmP ?_ ?_ | refine baP ?_ _ ?_ | refine .drew ?_ | refine .setCell ?_ ?_ _ | refine bdP ?_ _)) <;> go_size)⟩
  · by_cases hB : b < 0
    · rw [if_pos (.inr hB)]
      go_enter Tryz.func84, Tryz.ntmps84
      go_wp2_with (first | (go_at_call 27; refine (value_Err _ _).mono ?_; rintro e w1 ⟨rfl, hb⟩; obtain ⟨l1, m1, rfl⟩ := more_of_below hb; clear hb))
      all_goals go_returns
      all_goals exact ⟨rfl, (by (with_reducible repeat' (first | exact .refl _ _ | assumption | refine bmP ?_ ?_ | refine baP ?_ _ ?_ | refine .drew ?_ | refine .setCell ?_ ?_ _ | refine bdP ?_ _)) <;> go_size)⟩
    · rw [if_neg (by rintro (h | h); exact hA h; exact hB h)]
      unfold Is64 at ha
      obtain ⟨d, hd⟩ : ∃ d, a - 1 = d := ⟨_, rfl⟩
      have hw : IntKind.i64.wrap d = d := by rw [IntKind.wrap_i64]; omega
      rw [hd]
      obtain ⟨q, hq⟩ : ∃ q, min d (s.size : Int) = q := ⟨_, rfl⟩
      have hq0 : (0 : Int) ≤ q := by omega
      have hq1 : q ≤ (s.size : Int) := by omega
      rw [hq]
      obtain ⟨t, ht⟩ : ∃ t, s.extract q.toNat s.size = t := ⟨_, rfl⟩
      rw [ht]
      obtain ⟨r, hr⟩ : ∃ r, min b (t.size : Int) = r := ⟨_, rfl⟩
      have hr0 : (0 : Int) ≤ r := by omega
      have hr1 : r ≤ (t.size : Int) := by omega
      rw [hr]
      go_enter Tryz.func84, Tryz.ntmps84
      go_wp2_with fail
      go_quiet (fail)
      all_goals go_wp2_with fail
      go_region_held3 (fun w' => w'.cell? ⟨w.heap.size, 0, none⟩ = some (.slice (some ⟨gs, 0, none⟩) k c1) ∧ w'.cell? ⟨w.heap.size, 1, none⟩ = some (.slice (some ⟨gn, 0, none⟩) 2 c2) ∧ w'.cell? ⟨w.heap.size, 2, none⟩ = some (.int .i64 text) ∧ w'.cell? ⟨gn, 1, none⟩ = some (.int .i64 b))
        (first | (go_keep; done) | (go_split_ands; (repeat' refine And.intro ?_ ?_) <;> first | trivial | (go_simp; done) | (repeat (first | assumption | with_reducible refine cell_moreJ ?_ _ _ | with_reducible refine cell_allocJ ?_ _ | with_reducible refine cell_drewJ ?_))))
        (first | (go_at_call 163; refine (texts_told _ _ _ _ _).mono ?_; rintro e w1 ⟨rfl, hb⟩; obtain ⟨l1, m1, rfl⟩ := more_of_below hb; clear hb))
      all_goals go_wp2
      all_goals go_returns
      all_goals exact ⟨rfl, (by (with_reducible repeat' (first | exact .refl _ _ | assumption | refine bmP ?_ ?_ | refine baP ?_ _ ?_ | refine .drew ?_ | refine .setCell ?_ ?_ _ | refine bdP ?_ _)) <;> go_size)⟩
end Go.Proofs.YtegbhdeaicgpkaaGreatDoor
