/-
  Parts of a proof: TextsH, TextsI.
-/
import Derived.Test.YtegbhdeaicgpkaaGreatDoorJ30
import Derived.Test.YtegbhdeaicgpkaaGreatDoorJ07
set_option linter.all false
namespace Go.Proofs.YtegbhdeaicgpkaaGreatDoor
open Go Go.RowKit
theorem index_any (s t : ByteArray) (w : World) (hm : MaxL w) (hl : s.size < 4294967281) :
    Calls Tryz.prog 167 #[.string s, .string t] w fun e w' => e = .returned (.int .i64 (Lib.index s.data.toList t.data.toList)) ∧ w' = w := by
  obtain ⟨m, hm⟩ := hm
  exact Tryz.strings_Index s t m w hl hm
theorem index_quiet {args : Array Value} {v : Value} {w w0 : World} (h : Calls Tryz.prog 167 args w fun e w' => e = .returned v ∧ w' = w) (hw : ∃ n, w = w0.drewN n) : Calls Tryz.prog 167 args w fun e w' => e = .returned v ∧ ∃ n, w' = w0.drewN n := by
  obtain ⟨n, rfl⟩ := hw
  refine h.mono ?_
  rintro e w' ⟨rfl, rfl⟩
  exact ⟨rfl, n, rfl⟩
def placeX (s t : ByteArray) (n : Int) : V :=
  if n < 1 then errG 8 else if (t.size : Int) + 1 < n then errG 6
  else if Lib.index (t.extract (n - 1).toNat t.size).data.toList s.data.toList < 0 then errG 6
  else wholeT (n + Lib.index (t.extract (n - 1).toNat t.size).data.toList s.data.toList)
theorem index_le (s t : List UInt8) : Lib.index s t ≤ s.length := by
  by_cases h : 0 ≤ Lib.index s t
  · have := Lib.index_room s t h
    omega
  · omega
set_option maxRecDepth 100000 in
set_option maxHeartbeats 800000 in
theorem texts_place0 (gs c1 c2 : Nat) (A : Option Addr) (s t : ByteArray) (ht : t.size ≤ 1048576) (text : Int) (w : World) (hM : MaxL w) (h0 : w.cell? ⟨gs, 0, none⟩ = some (.string s)) (h1 : w.cell? ⟨gs, 1, none⟩ = some (.string t)) :
    Calls Tryz.prog 91 #[.agg #[.slice (some ⟨gs, 0, none⟩) 2 c1, .slice A 0 c2, .int .i64 text]] w fun e w' => e = .returned (Value.agg #[Value.int .i64 (placeX s t 1).tag, Value.int .i64 (placeX s t 1).num, Value.string (placeX s t 1).str, Value.bool (placeX s t 1).is, Value.int .i64 (placeX s t 1).code]) ∧ Below w.heap.size w w' := by
  have hl : gs < w.heap.size := World.block_lt_of_cell? w _ h0
  have hl1 : gs < w.heap.size + 1 := by omega
  have hl2 : gs < w.heap.size + 1 + 1 := by omega
  have HMX := Lib.hid hM
  clear hM
  obtain ⟨R, hR⟩ : ∃ R, placeX s t 1 = R := ⟨_, rfl⟩
  rw [hR]
  unfold placeX at hR
  rw [if_neg (by decide)] at hR
  have hw1 : IntKind.i64.wrap ((t.size : Int) + 1) = (t.size : Int) + 1 := by rw [IntKind.wrap_i64]; omega
  have hhigh : ¬ (t.size : Int) + 1 < 1 := by omega
  rw [if_neg hhigh] at hR
  obtain ⟨d, hd⟩ : ∃ d : Nat, d = 0 := ⟨_, rfl⟩
  rw [show ((1 : Int) - 1).toNat = 0 from rfl] at hR
  clear hd
  obtain ⟨u, hu⟩ : ∃ u, t.extract 0 t.size = u := ⟨_, rfl⟩
  have hus : u.size ≤ t.size := by rw [← hu]; simp
  rw [hu] at hR
  obtain ⟨z, hz⟩ : ∃ z, Lib.index u.data.toList s.data.toList = z := ⟨_, rfl⟩
  have HIX := Lib.hid (fun w h => index_any u s w h (by omega))
  rw [hz] at hR HIX
  have hzl := index_le u.data.toList s.data.toList
  rw [hz, show u.data.toList.length = u.size by rw [Array.length_toList]; rfl] at hzl
  by_cases hneg : z < 0
  · rw [if_pos hneg] at hR
    subst hR
    clear hz
    go_enter Tryz.func91, Tryz.ntmps91
    go_wp2_with fail
    go_quiet (first | (go_at_call 167; exact index_quiet (HIX.out _ (HMX.out.below (by (with_reducible repeat' (first | exact .refl _ _ | assumption | refine bmP ?_ ?_ | refine baP ?_ _ ?_ | refine .drew ?_ | refine .setCell ?_ ?_ _ | refine bdP ?_ _)) <;> go_size))) ⟨_, rfl⟩))
    go_wp2_with (first | (go_at_call 27; refine (value_Err _ _).mono ?_; rintro e w1 ⟨rfl, hb⟩; obtain ⟨l1, m1, rfl⟩ := more_of_below hb; clear hb))
    all_goals go_returns
    all_goals exact ⟨rfl, (by (with_reducible repeat' (first | exact .refl _ _ | assumption | refine bmP ?_ ?_ | refine baP ?_ _ ?_ | refine .drew ?_ | refine .setCell ?_ ?_ _ | refine bdP ?_ _)) <;> go_size)⟩
  · rw [if_neg hneg] at hR
    obtain ⟨i, rfl⟩ : ∃ i : Nat, z = (i : Int) := ⟨z.toNat, by omega⟩
    have hws : IntKind.i64.wrap ((1 : Int) + (i : Int)) = (1 : Int) + (i : Int) := by rw [IntKind.wrap_i64]; omega
    have HW := Lib.hid (show Is64 ((1 : Int) + (i : Int)) from ⟨by omega, by omega⟩)
    subst hR
    clear hz
    go_enter Tryz.func91, Tryz.ntmps91
    go_wp2_with fail
    go_quiet (first | (go_at_call 167; exact index_quiet (HIX.out _ (HMX.out.below (by (with_reducible repeat' (first | exact .refl _ _ | assumption | refine bmP ?_ ?_ | refine baP ?_ _ ?_ | refine .drew ?_ | refine .setCell ?_ ?_ _ | refine bdP ?_ _)) <;> go_size))) ⟨_, rfl⟩))
    go_wp2_with (first | (go_at_call 81; refine (texts_whole _ HW.out _).mono ?_; rintro e w1 ⟨rfl, hb⟩; obtain ⟨l1, m1, rfl⟩ := more_of_below hb; clear hb))
    all_goals go_returns
    all_goals exact ⟨rfl, (by (with_reducible repeat' (first | exact .refl _ _ | assumption | refine bmP ?_ ?_ | refine baP ?_ _ ?_ | refine .drew ?_ | refine .setCell ?_ ?_ _ | refine bdP ?_ _)) <;> go_size)⟩
set_option maxRecDepth 100000 in
set_option maxHeartbeats 800000 in
theorem texts_place1 (gs c1 c2 : Nat) (gn : Nat) (n : Int) (hn : Is64 n) (s t : ByteArray) (ht : t.size ≤ 1048576) (text : Int) (w : World) (hM : MaxL w) (h0 : w.cell? ⟨gs, 0, none⟩ = some (.string s)) (h1 : w.cell? ⟨gs, 1, none⟩ = some (.string t)) (hc : w.cell? ⟨gn, 0, none⟩ = some (.int .i64 n)) :
    Calls Tryz.prog 91 #[.agg #[.slice (some ⟨gs, 0, none⟩) 2 c1, .slice (some ⟨gn, 0, none⟩) 1 c2, .int .i64 text]] w fun e w' => e = .returned (Value.agg #[Value.int .i64 (placeX s t n).tag, Value.int .i64 (placeX s t n).num, Value.string (placeX s t n).str, Value.bool (placeX s t n).is, Value.int .i64 (placeX s t n).code]) ∧ Below w.heap.size w w' := by
  have hl : gs < w.heap.size := World.block_lt_of_cell? w _ h0
  have hl1 : gs < w.heap.size + 1 := by omega
  have hl2 : gs < w.heap.size + 1 + 1 := by omega
  have HMX := Lib.hid hM
  clear hM
  have hln : gn < w.heap.size := World.block_lt_of_cell? w _ hc
  have hln1 : gn < w.heap.size + 1 := by omega
  have hln2 : gn < w.heap.size + 1 + 1 := by omega
  unfold Is64 at hn
  obtain ⟨R, hR⟩ : ∃ R, placeX s t n = R := ⟨_, rfl⟩
  rw [hR]
  unfold placeX at hR
  by_cases hlow : n < 1
  · rw [if_pos hlow] at hR
    subst hR
    go_enter Tryz.func91, Tryz.ntmps91
    go_wp2_with (first | (go_at_call 27; refine (value_Err _ _).mono ?_; rintro e w1 ⟨rfl, hb⟩; obtain ⟨l1, m1, rfl⟩ := more_of_below hb; clear hb))
    all_goals go_returns
    all_goals exact ⟨rfl, (by (with_reducible repeat' (first | exact .refl _ _ | assumption | refine bmP ?_ ?_ | refine baP ?_ _ ?_ | refine .drew ?_ | refine .setCell ?_ ?_ _ | refine bdP ?_ _)) <;> go_size)⟩
  rw [if_neg hlow] at hR
  have hw1 : IntKind.i64.wrap ((t.size : Int) + 1) = (t.size : Int) + 1 := by rw [IntKind.wrap_i64]; omega
  by_cases hhigh : (t.size : Int) + 1 < n
  · rw [if_pos hhigh] at hR
    subst hR
    go_enter Tryz.func91, Tryz.ntmps91
    go_wp2_with (first | (go_at_call 27; refine (value_Err _ _).mono ?_; rintro e w1 ⟨rfl, hb⟩; obtain ⟨l1, m1, rfl⟩ := more_of_below hb; clear hb))
    all_goals go_returns
    all_goals exact ⟨rfl, (by (with_reducible repeat' (first | exact .refl _ _ | assumption | refine bmP ?_ ?_ | refine baP ?_ _ ?_ | refine .drew ?_ | refine .setCell ?_ ?_ _ | refine bdP ?_ _)) <;> go_size)⟩
  rw [if_neg hhigh] at hR
  obtain ⟨d, hd⟩ : ∃ d : Int, n - 1 = d := ⟨_, rfl⟩
  have hw2 : IntKind.i64.wrap d = d := by rw [IntKind.wrap_i64]; omega
  rw [hd] at hR
  obtain ⟨u, hu⟩ : ∃ u, t.extract d.toNat t.size = u := ⟨_, rfl⟩
  have hd0 : (0 : Int) ≤ d := by omega
  have hd2 : d ≤ (t.size : Int) := by omega
  have hus : u.size ≤ t.size := by rw [← hu]; simp
  rw [hu] at hR
  obtain ⟨z, hz⟩ : ∃ z, Lib.index u.data.toList s.data.toList = z := ⟨_, rfl⟩
  have HIX := Lib.hid (fun w h => index_any u s w h (by omega))
  rw [hz] at hR HIX
  have hzl := index_le u.data.toList s.data.toList
  rw [hz, show u.data.toList.length = u.size by rw [Array.length_toList]; rfl] at hzl
  by_cases hneg : z < 0
  · rw [if_pos hneg] at hR
    subst hR
    clear hz
    go_enter Tryz.func91, Tryz.ntmps91
    go_wp2_with fail
    go_quiet (first | (go_at_call 167; exact index_quiet (HIX.out _ (HMX.out.below (by (with_reducible repeat' (first | exact .refl _ _ | assumption | refine bmP ?_ ?_ | refine baP ?_ _ ?_ | refine .drew ?_ | refine .setCell ?_ ?_ _ | refine bdP ?_ _)) <;> go_size))) ⟨_, rfl⟩))
    go_wp2_with (first | (go_at_call 27; refine (value_Err _ _).mono ?_; rintro e w1 ⟨rfl, hb⟩; obtain ⟨l1, m1, rfl⟩ := more_of_below hb; clear hb))
    all_goals go_returns
    all_goals exact ⟨rfl, (by (with_reducible repeat' (first | exact .refl _ _ | assumption | refine bmP ?_ ?_ | refine baP ?_ _ ?_ | refine .drew ?_ | refine .setCell ?_ ?_ _ | refine bdP ?_ _)) <;> go_size)⟩
  · rw [if_neg hneg] at hR
    obtain ⟨i, rfl⟩ : ∃ i : Nat, z = (i : Int) := ⟨z.toNat, by omega⟩
    have hws : IntKind.i64.wrap (n + (i : Int)) = n + (i : Int) := by rw [IntKind.wrap_i64]; omega
    have HW := Lib.hid (show Is64 (n + (i : Int)) from ⟨by omega, by omega⟩)
    subst hR
    clear hz
    go_enter Tryz.func91, Tryz.ntmps91
    go_wp2_with fail
    go_quiet (first | (go_at_call 167; exact index_quiet (HIX.out _ (HMX.out.below (by (with_reducible repeat' (first | exact .refl _ _ | assumption | refine bmP ?_ ?_ | refine baP ?_ _ ?_ | refine .drew ?_ | refine .setCell ?_ ?_ _ | refine bdP ?_ _)) <;> go_size))) ⟨_, rfl⟩))
    go_wp2_with (first | (go_at_call 81; refine (texts_whole _ HW.out _).mono ?_; rintro e w1 ⟨rfl, hb⟩; obtain ⟨l1, m1, rfl⟩ := more_of_below hb; clear hb))
    all_goals go_returns
    all_goals exact ⟨rfl, (by (with_reducible repeat' (first | exact .refl _ _ | assumption | refine bmP ?_ ?_ | refine baP ?_ _ ?_ | refine .drew ?_ | refine .setCell ?_ ?_ _ | refine bdP ?_ _)) <;> go_size)⟩
end Go.Proofs.YtegbhdeaicgpkaaGreatDoor
namespace Go.Proofs.YtegbhdeaicgpkaaGreatDoor
open Go Go.RowKit
theorem one_back {w : World} {g m : Nat} (hg : w.heap.size = g) (hm : m < 256) : (convert 194 9 (.slice (some ⟨g, 0, none⟩) 1 1)).run Tryz.prog (w.alloc (.cells #[.int .u8 (m : Int)] 5)).drew = .ok (.string ⟨#[UInt8.ofNat m]⟩) (w.alloc (.cells #[.int .u8 (m : Int)] 5)).drew := by
  subst hg
  refine run_convert_bytes_back _ _ _ 5 ⟨w.heap.size, 0, none⟩ 1 [UInt8.ofNat m] Tryz.underlying194 Tryz.underlying5 Tryz.underlying9 (fun j hj => ?_)
  obtain rfl : j = 0 := by simpa using hj
  have e : (⟨w.heap.size, 0, none⟩ : Addr).add 0 = ⟨w.heap.size, 0, none⟩ := rfl
  rw [e]
  have h2 : (UInt8.ofNat m).toNat = m := by simp; omega
  have h3 : (w.alloc (.cells #[.int .u8 (m : Int)] 5)).cell? ⟨w.heap.size, 0, none⟩ = some (.int .u8 (m : Int)) := by
    rw [cell_of_row (w.alloc (.cells #[.int .u8 (m : Int)] 5)) w.heap.size 0 #[.int .u8 (m : Int)] 5 (0, 0) (heap_alloc_new w _)]
    rfl
  simp only [List.getElem_cons_zero, h2]
  exact h3
set_option maxRecDepth 100000 in
set_option maxHeartbeats 800000 in
theorem texts_char (gn c2 k : Nat) (hk : 0 < k) (n : Int) (hn : Is64 n) (sv : Value) (text : Int) (w : World) (hc : w.cell? ⟨gn, 0, none⟩ = some (.int .i64 n)) :
    Calls Tryz.prog 96 #[.agg #[sv, .slice (some ⟨gn, 0, none⟩) k c2, .int .i64 text]] w fun e w' => e = .returned (Value.agg #[Value.int .i64 (charX text n).tag, Value.int .i64 (charX text n).num, Value.string (charX text n).str, Value.bool (charX text n).is, Value.int .i64 (charX text n).code]) ∧ Below w.heap.size w w' := by
  have hln : gn < w.heap.size := World.block_lt_of_cell? w _ hc
  have hln1 : gn < w.heap.size + 1 := by omega
  have hln2 : gn < w.heap.size + 1 + 1 := by omega
  have hk2 : (0 : Int) < (k : Int) := by omega
  obtain ⟨R, hR⟩ : ∃ R, charX text n = R := ⟨_, rfl⟩
  rw [hR]
  unfold charX at hR
  unfold Is64 at hn
  by_cases h1 : n < 0
  · rw [if_pos (.inl h1)] at hR
    subst hR
    go_enter Tryz.func96, Tryz.ntmps96
    go_wp2_with (first | (go_at_call 27; refine (value_Err _ _).mono ?_; rintro e w1 ⟨rfl, hb⟩; obtain ⟨l1, m1, rfl⟩ := more_of_below hb; clear hb))
    all_goals go_returns
    all_goals exact ⟨rfl, (by (with_reducible repeat' (first | exact .refl _ _ | assumption | refine bmP ?_ ?_ | refine baP ?_ _ ?_ | refine .drew ?_ | refine .setCell ?_ ?_ _ | refine bdP ?_ _)) <;> go_size)⟩
  by_cases h2 : 255 < n
  · rw [if_pos (.inr h2)] at hR
    subst hR
    go_enter Tryz.func96, Tryz.ntmps96
    go_wp2_with (first | (go_at_call 27; refine (value_Err _ _).mono ?_; rintro e w1 ⟨rfl, hb⟩; obtain ⟨l1, m1, rfl⟩ := more_of_below hb; clear hb))
    all_goals go_returns
    all_goals exact ⟨rfl, (by (with_reducible repeat' (first | exact .refl _ _ | assumption | refine bmP ?_ ?_ | refine baP ?_ _ ?_ | refine .drew ?_ | refine .setCell ?_ ?_ _ | refine bdP ?_ _)) <;> go_size)⟩
  rw [if_neg (by omega)] at hR
  obtain ⟨m, rfl⟩ : ∃ m : Nat, n = (m : Int) := ⟨n.toNat, by omega⟩
  have hb : IntKind.u8.wrap (m : Int) = (m : Int) := by rw [IntKind.wrap_u8]; omega
  have hbu : ((UInt8.ofNat m).toNat : Int) = (m : Int) := by simp; omega
  have hcv := one_back (w := ((w.alloc (.cells #[sv, .slice (some ⟨gn, 0, none⟩) k c2, .int .i64 text] 108)).alloc (.cells #[.int .i64 0, .int .i64 0, .string ⟨#[]⟩, .bool false, .int .i64 0] 29))) (g := w.heap.size + 1 + 1) (m := m) (by simp) (by omega)
  rw [Int.toNat_natCast] at hR
  clear hn hbu
  go_enter Tryz.func96, Tryz.ntmps96
  go_wp2_with fail
  go_region_with (first | (go_at_call 163; refine (texts_told _ _ _ _ _).mono ?_; rw [hR]; rintro e w1 ⟨rfl, hb⟩; obtain ⟨l1, m1, rfl⟩ := more_of_below hb; clear hb))
  all_goals go_wp2
  all_goals go_returns
  all_goals exact ⟨rfl, (by (with_reducible repeat' (first | exact .refl _ _ | assumption | refine bmP ?_ ?_ | refine baP ?_ _ ?_ | refine .drew ?_ | refine .setCell ?_ ?_ _ | refine bdP ?_ _)) <;> go_size)⟩
def repL (s : ByteArray) (n : Nat) : ByteArray := ⟨(Lib.repeatL s.data.toList n).toArray⟩
def reptX (text : Nat) (s : ByteArray) (n : Int) : V :=
  if n < 0 then errG 8 else if s.data.toList = [] ∨ n = 0 then toldX text ⟨#[]⟩
  else if ((text / s.size : Nat) : Int) < n then errG 7 else toldX text (repL s n.toNat)
set_option maxRecDepth 100000 in
set_option maxHeartbeats 800000 in
theorem texts_rept (gs c1 gn c2 k j : Nat) (hk : 0 < k) (hj : 0 < j) (s : ByteArray) (n : Int) (hn : Is64 n) (hs : s.size ≤ 1048576) (text : Nat) (ht : text ≤ 100000) (w : World) (h0 : w.cell? ⟨gs, 0, none⟩ = some (.string s)) (hc : w.cell? ⟨gn, 0, none⟩ = some (.int .i64 n)) :
    Calls Tryz.prog 90 #[.agg #[.slice (some ⟨gs, 0, none⟩) k c1, .slice (some ⟨gn, 0, none⟩) j c2, .int .i64 text]] w fun e w' => e = .returned (Value.agg #[Value.int .i64 (reptX text s n).tag, Value.int .i64 (reptX text s n).num, Value.string (reptX text s n).str, Value.bool (reptX text s n).is, Value.int .i64 (reptX text s n).code]) ∧ Below w.heap.size w w' := by
  have hl : gs < w.heap.size := World.block_lt_of_cell? w _ h0
  have hl1 : gs < w.heap.size + 1 := by omega
  have hl2 : gs < w.heap.size + 1 + 1 := by omega
  have hln : gn < w.heap.size := World.block_lt_of_cell? w _ hc
  have hln1 : gn < w.heap.size + 1 := by omega
  have hln2 : gn < w.heap.size + 1 + 1 := by omega
  have hk2 : (0 : Int) < (k : Int) := by omega
  have hj2 : (0 : Int) < (j : Int) := by omega
  obtain ⟨R, hR⟩ : ∃ R, reptX text s n = R := ⟨_, rfl⟩
  rw [hR]
  unfold reptX at hR
  unfold Is64 at hn
  by_cases h1 : n < 0
  · rw [if_pos h1] at hR
    subst hR
    go_enter Tryz.func90, Tryz.ntmps90
    go_wp2_with fail
    go_quiet (fail)
    go_wp2_with (first | (go_at_call 27; refine (value_Err _ _).mono ?_; rintro e w1 ⟨rfl, hb⟩; obtain ⟨l1, m1, rfl⟩ := more_of_below hb; clear hb))
    all_goals go_returns
    all_goals exact ⟨rfl, (by (with_reducible repeat' (first | exact .refl _ _ | assumption | refine bmP ?_ ?_ | refine baP ?_ _ ?_ | refine .drew ?_ | refine .setCell ?_ ?_ _ | refine bdP ?_ _)) <;> go_size)⟩
  rw [if_neg h1] at hR
  by_cases h2 : s.data.toList = []
  · rw [if_pos (.inl h2)] at hR
    obtain rfl : s = ⟨#[]⟩ := by rw [← mk_data s, h2]
    clear h2
    go_enter Tryz.func90, Tryz.ntmps90
    go_wp2_with fail
    go_quiet (fail)
    go_wp2_with (first | (go_at_call 163; refine (texts_told _ _ _ _ _).mono ?_; rw [hR]; rintro e w1 ⟨rfl, hb⟩; obtain ⟨l1, m1, rfl⟩ := more_of_below hb; clear hb))
    all_goals go_returns
    all_goals exact ⟨rfl, (by (with_reducible repeat' (first | exact .refl _ _ | assumption | refine bmP ?_ ?_ | refine baP ?_ _ ?_ | refine .drew ?_ | refine .setCell ?_ ?_ _ | refine bdP ?_ _)) <;> go_size)⟩
  have hz : 0 < s.size := by
    have h3 : s.data.toList.length = s.size := by rw [Array.length_toList]; rfl
    have h4 := List.length_pos_iff.2 h2
    omega
  have hse : s.toList.isEmpty = false := by
    rw [ByteArray.toList_eq]
    cases hh : s.data.toList with
    | nil => exact absurd hh h2
    | cons a r => rfl
  by_cases h3 : n = 0
  · rw [if_pos (.inr h3)] at hR
    subst h3
    clear h2
    go_enter Tryz.func90, Tryz.ntmps90
    go_wp2_with fail
    go_quiet (fail)
    go_wp2_with (first | (go_at_call 163; refine (texts_told _ _ _ _ _).mono ?_; rw [hR]; rintro e w1 ⟨rfl, hb⟩; obtain ⟨l1, m1, rfl⟩ := more_of_below hb; clear hb))
    all_goals go_returns
    all_goals exact ⟨rfl, (by (with_reducible repeat' (first | exact .refl _ _ | assumption | refine bmP ?_ ?_ | refine baP ?_ _ ?_ | refine .drew ?_ | refine .setCell ?_ ?_ _ | refine bdP ?_ _)) <;> go_size)⟩
  rw [if_neg (by rintro (h | h); exact h2 h; exact h3 h)] at hR
  obtain ⟨z, hzz⟩ : ∃ z, s.size = z := ⟨_, rfl⟩
  obtain ⟨q, hq⟩ : ∃ q, text / z = q := ⟨_, rfl⟩
  have hqt : (text : Int).tdiv (z : Int) = (q : Int) := by rw [← hq]; exact (Int.ofNat_tdiv text z).symm
  have hqw : IntKind.i64.wrap (q : Int) = (q : Int) := by
    have : q ≤ text := by rw [← hq]; exact Nat.div_le_self _ _
    rw [IntKind.wrap_i64]; omega
  rw [hzz, hq] at hR
  by_cases h4 : (q : Int) < n
  · rw [if_pos h4] at hR
    subst hR
    clear h2
    go_enter Tryz.func90, Tryz.ntmps90
    go_wp2_with fail
    go_quiet (fail)
    go_wp2_with (first | (go_at_call 27; refine (value_Err _ _).mono ?_; rintro e w1 ⟨rfl, hb⟩; obtain ⟨l1, m1, rfl⟩ := more_of_below hb; clear hb))
    all_goals go_returns
    all_goals exact ⟨rfl, (by (with_reducible repeat' (first | exact .refl _ _ | assumption | refine bmP ?_ ?_ | refine baP ?_ _ ?_ | refine .drew ?_ | refine .setCell ?_ ?_ _ | refine bdP ?_ _)) <;> go_size)⟩
  rw [if_neg h4] at hR
  obtain ⟨m, rfl⟩ : ∃ m : Nat, n = (m : Int) := ⟨n.toNat, by omega⟩
  rw [Int.toNat_natCast] at hR
  have hmz : s.size * m ≤ 140737488355328 := by
    have h5 : m ≤ q := by omega
    have h6 : z * m ≤ z * q := Nat.mul_le_mul_left _ h5
    have h7 : z * q ≤ text := by rw [← hq]; exact Nat.mul_div_le text z
    rw [hzz]; omega
  have HRP := Lib.hid (fun w => Any.strings_Repeat Tryz.lays105 Tryz.Builder_Extra_105 s m w (by omega) hmz)
  clear h2
  go_enter Tryz.func90, Tryz.ntmps90
  go_wp2_with fail
  go_quiet (fail)
  go_wp2_with fail
  go_region_with (first | (go_at_call 93; refine (HRP.out _).mono ?_; rintro e w1 ⟨rfl, hb⟩; obtain ⟨l1, m1, rfl⟩ := more_of_below hb; clear hb) | (go_at_call 163; refine (texts_told _ _ _ _ _).mono ?_; rw [← repL, hR]; rintro e w1 ⟨rfl, hb⟩; obtain ⟨l2, m2, rfl⟩ := more_of_below hb; clear hb))
  all_goals go_wp2
  all_goals go_returns
  all_goals exact ⟨rfl, (by (with_reducible repeat' (first | exact .refl _ _ | assumption | refine bmP ?_ ?_ | refine baP ?_ _ ?_ | refine .drew ?_ | refine .setCell ?_ ?_ _ | refine bdP ?_ _)) <;> go_size)⟩
end Go.Proofs.YtegbhdeaicgpkaaGreatDoor
