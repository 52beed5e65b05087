/-
  Parts of a proof: TextsC, TextsD, TextsE, TextsF, TextsG.
-/
import Derived.Test.YtegbhdeaicgpkaaGreatDoorJ24
import Derived.Test.YtegbhdeaicgpkaaGreatDoorJ08
import Derived.Laws.IdiomStrings
import Derived.Test.YtegbhdeaicgpkaaGreatDoorJ29
import Derived.Test.YtegbhdeaicgpkaaGreatDoorJ12
set_option linter.all false
namespace Go.Proofs.YtegbhdeaicgpkaaGreatDoor
open Go Go.RowKit
def exactX (s t : ByteArray) : V := truthG (s.toList == t.toList)
set_option maxRecDepth 100000 in
set_option maxHeartbeats 400000 in
theorem texts_exact (gs c1 : Nat) (nv : Value) (text : Int) (s t : ByteArray) (w : World) (h : w.cell? ⟨gs, 0, none⟩ = some (.string s)) (h1 : w.cell? ⟨gs, 1, none⟩ = some (.string t)) :
    Calls Tryz.prog 97 #[.agg #[.slice (some ⟨gs, 0, none⟩) 2 c1, nv, .int .i64 text]] w fun e w' => e = .returned (Value.agg #[Value.int .i64 (exactX s t).tag, Value.int .i64 (exactX s t).num, Value.string (exactX s t).str, Value.bool (exactX s t).is, Value.int .i64 (exactX s t).code]) ∧ Below w.heap.size w w' := by
  have hl : gs < w.heap.size := World.block_lt_of_cell? w _ h
  obtain ⟨z, hz⟩ : ∃ z, (s.toList == t.toList) = z := ⟨_, rfl⟩
  unfold exactX
  rw [hz]
  go_enter Tryz.func97, Tryz.ntmps97
  go_wp2_with fail
  go_region_held3 (fun w' => w'.cell? ⟨w.heap.size, 0, none⟩ = some (.slice (some ⟨gs, 0, none⟩) 2 c1) ∧ w'.cell? ⟨gs, 0, none⟩ = some (.string s) ∧ w'.cell? ⟨gs, 1, none⟩ = some (.string t))
    (first | (go_keep; done) | (go_split_ands; (repeat' refine And.intro ?_ ?_) <;> first | trivial | (go_simp; done) | (repeat (first | assumption | with_reducible refine cell_moreJ ?_ _ _ | with_reducible refine cell_allocJ ?_ _ | with_reducible refine cell_drewJ ?_))))
    (first | (go_at_call 98; refine (value_Truth _ _).mono ?_; rintro e w1 ⟨rfl, hb⟩; obtain ⟨l1, m1, rfl⟩ := more_of_below hb; clear hb))
  all_goals go_wp2
  all_goals go_returns
  all_goals exact ⟨rfl, (by (with_reducible repeat' (first | exact .refl _ _ | assumption | refine bmP ?_ ?_ | refine baP ?_ _ ?_ | refine .drew ?_ | refine .setCell ?_ ?_ _ | refine bdP ?_ _)) <;> go_size)⟩
set_option maxRecDepth 100000 in
set_option maxHeartbeats 400000 in
theorem texts_text (f : Nat) (hf : ∀ (args : Array Value) (w : World), Sem.run Tryz.prog (callFunc f args) w = .ok (.enter f args) w) (p gs c1 k : Nat) (hk : 0 < k) (nv : Value) (text : Int) (s r : ByteArray) (w : World) (hp : w.cell? ⟨p, 0, none⟩ = some (.func (.func f) #[] #[])) (h : w.cell? ⟨gs, 0, none⟩ = some (.string s))
    (hd : ∀ W, Below w.heap.size w W → Calls Tryz.prog f #[.string s] W fun e w' => e = .returned (.string r) ∧ Below W.heap.size W w') :
    Calls Tryz.prog 164 #[.agg #[.slice (some ⟨gs, 0, none⟩) k c1, nv, .int .i64 text], .pointer (some ⟨p, 0, none⟩)] w fun e w' => e = .returned (Value.agg #[Value.int .i64 (toldX text r).tag, Value.int .i64 (toldX text r).num, Value.string (toldX text r).str, Value.bool (toldX text r).is, Value.int .i64 (toldX text r).code]) ∧ Below w.heap.size w w' := by
  have hl : gs < w.heap.size := World.block_lt_of_cell? w _ h
  have hpl : p < w.heap.size := World.block_lt_of_cell? w _ hp
  have hk2 : (0 : Int) < (k : Int) := by omega
  have HD := Lib.hid hd
  clear hd
  go_enter Tryz.func164, Tryz.ntmps164
  go_wp2_with fail
  go_region_held3 (fun w' => w'.cell? ⟨w.heap.size, 0, none⟩ = some (.slice (some ⟨gs, 0, none⟩) k c1) ∧ w'.cell? ⟨w.heap.size, 1, none⟩ = some nv ∧ w'.cell? ⟨w.heap.size, 2, none⟩ = some (.int .i64 text) ∧ w'.cell? ⟨gs, 0, none⟩ = some (.string s) ∧ w'.cell? ⟨p, 0, none⟩ = some (.func (.func f) #[] #[]))
    (first | (go_keep; done) | (go_split_ands; (repeat' refine And.intro ?_ ?_) <;> first | trivial | (go_simp; done) | (repeat (first | assumption | with_reducible refine cell_moreJ ?_ _ _ | with_reducible refine cell_allocJ ?_ _ | with_reducible refine cell_drewJ ?_))))
    (first | (go_at_call 163; refine (texts_told _ _ _ _ _).mono ?_; rintro e w1 ⟨rfl, hb⟩; obtain ⟨l1, m1, rfl⟩ := more_of_below hb; clear hb) | (with_reducible refine Calls.mono (HD.out _ (by (with_reducible repeat' (first | exact .refl _ _ | assumption | refine bmP ?_ ?_ | refine baP ?_ _ ?_ | refine .drew ?_ | refine .setCell ?_ ?_ _ | refine bdP ?_ _)) <;> go_size)) ?_; rintro e w2 ⟨rfl, hb⟩; obtain ⟨l2, m2, rfl⟩ := more_of_below hb; clear hb))
  all_goals go_wp2
  all_goals go_returns
  all_goals exact ⟨rfl, (by (with_reducible repeat' (first | exact .refl _ _ | assumption | refine bmP ?_ ?_ | refine baP ?_ _ ?_ | refine .drew ?_ | refine .setCell ?_ ?_ _ | refine bdP ?_ _)) <;> go_size)⟩
set_option maxRecDepth 100000 in
set_option maxHeartbeats 400000 in
theorem texts_ord (gs c1 k : Nat) (hk : 0 < k) (nv : Value) (text : Int) (s : ByteArray) (w : World) (h : w.cell? ⟨gs, 0, none⟩ = some (.string s)) :
    Calls Tryz.prog 95 #[.agg #[.slice (some ⟨gs, 0, none⟩) k c1, nv, .int .i64 text]] w fun e w' => e = .returned (Value.agg #[Value.int .i64 (ordX s).tag, Value.int .i64 (ordX s).num, Value.string (ordX s).str, Value.bool (ordX s).is, Value.int .i64 (ordX s).code]) ∧ Below w.heap.size w w' := by
  have hl : gs < w.heap.size := World.block_lt_of_cell? w _ h
  have hk2 : (0 : Int) < (k : Int) := by omega
  unfold ordX
  cases he : s.toList.isEmpty
  · rw [if_neg (by decide)]
    have hsz : 0 < s.size := by
      rw [ByteArray.toList_eq] at he
      cases hh : s.data.toList with
      | nil => rw [hh] at he; cases he
      | cons a t => have h2 : s.data.toList.length = (a :: t).length := by rw [hh]
                    rw [Array.length_toList, List.length_cons] at h2
                    show 0 < s.data.size
                    omega
    have hix := idx_string s 0 (by decide) (by simpa using hsz)
    have H64 : Is64 (((s.data.toList.getD 0 0).toNat : Nat) : Int) := by
      have := (s.data.toList.getD 0 0).toNat_lt
      exact ⟨by omega, by omega⟩
    obtain ⟨z, hz⟩ : ∃ z : Nat, (s.data.toList.getD 0 0).toNat = z := ⟨_, rfl⟩
    have hix2 : ∀ w, (Instr.index 9 (.string s) (.int .i64 0)).run Tryz.prog w = .ok (.int .u8 (z : Int)) w := fun w => by rw [hix]; simp only [Int.toNat_zero, hz]
    rw [hz] at H64 ⊢
    have HZ := Lib.hid H64
    have hu : IntKind.i64.wrap (z : Int) = z := by unfold Is64 at H64; rw [IntKind.wrap_i64]; omega
    clear hix H64 hz
    go_enter Tryz.func95, Tryz.ntmps95
    go_wp2_with (first | (go_at_call 81; refine (texts_whole _ HZ.out _).mono ?_; rintro e w1 ⟨rfl, hb⟩; obtain ⟨l1, m1, rfl⟩ := more_of_below hb; clear hb))
    all_goals go_returns
    all_goals exact ⟨rfl, (by (with_reducible repeat' (first | exact .refl _ _ | assumption | refine bmP ?_ ?_ | refine baP ?_ _ ?_ | refine .drew ?_ | refine .setCell ?_ ?_ _ | refine bdP ?_ _)) <;> go_size)⟩
  · rw [if_pos rfl]
    go_enter Tryz.func95, Tryz.ntmps95
    go_wp2_with (first | (go_at_call 27; refine (value_Err _ _).mono ?_; rintro e w1 ⟨rfl, hb⟩; obtain ⟨l1, m1, rfl⟩ := more_of_below hb; clear hb))
    all_goals go_returns
    all_goals exact ⟨rfl, (by (with_reducible repeat' (first | exact .refl _ _ | assumption | refine bmP ?_ ?_ | refine baP ?_ _ ?_ | refine .drew ?_ | refine .setCell ?_ ?_ _ | refine bdP ?_ _)) <;> go_size)⟩
end Go.Proofs.YtegbhdeaicgpkaaGreatDoor
namespace Go.Proofs.YtegbhdeaicgpkaaGreatDoor
open Go Go.RowKit
def B8 (l : List UInt8) : List Value := l.map fun b => .int .u8 ((b.toNat : Nat) : Int)
def turnB (f t : Nat) (c : UInt8) : UInt8 := if f ≤ c.toNat ∧ c.toNat < f + 26 then UInt8.ofNat (c.toNat - f + t) else c
def eachX (f t : Nat) (s : ByteArray) : ByteArray := ⟨(s.data.toList.map (turnB f t)).toArray⟩
structure Row8 (w : World) (g : Nat) (l : List UInt8) : Prop where
  at0 : AtB w g (B8 l)
  fr : ∀ i, i < l.length → w.frozen? ⟨g, i, none⟩ = false
  lt : g < w.heap.size
theorem row8_new (w : World) (s : ByteArray) (cap : Nat) (hc : s.size ≤ cap) (fr : Nat × Nat) (hf : fr = ((bytesRow s cap).size, (bytesRow s cap).size + 1)) : Row8 (w.alloc (.cells (bytesRow s cap) 5 fr)) w.heap.size s.data.toList := by
  have hsz : (bytesRow s cap).size = cap := by
    unfold bytesRow
    simp
    have : s.data.size = s.size := rfl
    omega
  refine ⟨fun j u hu => ?_, fun i hi => ?_, by simp⟩
  · have hj : j < s.data.size := by have := (List.getElem?_eq_some_iff.1 hu).1; simpa [B8] using this
    rw [World.cell?_alloc_mark, bytesRow_at s cap j hj]
    simp only [B8, List.getElem?_map, List.getElem?_eq_getElem (show j < s.data.toList.length by simpa using hj), Option.map_some, Option.some.injEq] at hu
    rw [← hu]
    simp
  · have hi' : i < s.size := by simpa using hi
    have hh : (w.alloc (.cells (bytesRow s cap) 5 fr)).heap[w.heap.size]? = some (.cells (bytesRow s cap) 5 fr) := heap_alloc_new w _
    simp only [World.frozen?, hh]
    rw [hf, hsz]
    simp
    omega
theorem row8_set {w : World} {g i : Nat} {l : List UInt8} {b : UInt8} (h : Row8 w g l) (hi : i < l.length) : Row8 (w.setCell ⟨g, i, none⟩ (.int .u8 ((b.toNat : Nat) : Int))) g (l.set i b) := by
  refine ⟨?_, fun j hj => by have := h.fr j (by simpa using hj); simpa using this, by simpa using h.lt⟩
  have h1 := atB_set h.at0 (i := i) (by simpa [B8] using hi) (.int .u8 ((b.toNat : Nat) : Int))
  simpa [B8, List.map_set] using h1
theorem row8_back {w : World} {g cap : Nat} {l : List UInt8} (h : Row8 w g l) : (convert 194 9 (.slice (some ⟨g, 0, none⟩) l.length cap)).run Tryz.prog w = .ok (.string ⟨l.toArray⟩) w :=
  run_convert_bytes_back w _ _ 5 ⟨g, 0, none⟩ cap l Tryz.underlying194 Tryz.underlying5 Tryz.underlying9 (fun j hj => by
    have e : (⟨g, 0, none⟩ : Addr).add j = ⟨g, j, none⟩ := by unfold Addr.add; split <;> simp_all
    rw [e]
    exact h.at0 j _ (by simp [B8, List.getElem?_eq_getElem hj]))
theorem Row8.below {w w' : World} {g : Nat} {l : List UInt8} (h : Row8 w g l) (hb : Below w.heap.size w w') : Row8 w' g l :=
  ⟨h.at0.below hb, fun i hi => (World.frozen?_of_block (a := ⟨g, i, none⟩) (hb.block g h.lt)).trans (h.fr i hi), Nat.lt_of_lt_of_le h.lt hb.size⟩
theorem turned_step (f t : Nat) (l : List UInt8) (j : Nat) (a : UInt8) (ha : l[j]? = some a) : ((l.take j).map (turnB f t) ++ l.drop j).set j (turnB f t a) = (l.take (j + 1)).map (turnB f t) ++ l.drop (j + 1) := by
  obtain ⟨hj, hv⟩ := List.getElem?_eq_some_iff.1 ha
  rw [List.drop_eq_getElem_cons hj, hv]
  have hlen : ((l.take j).map (turnB f t)).length = j := by simp; omega
  rw [List.set_append_right _ _ (by omega), hlen, Nat.sub_self, List.set_cons_zero]
  rw [show l.take (j + 1) = l.take j ++ [a] by rw [List.take_add_one, ha]; rfl]
  simp
theorem set_same {l : List UInt8} {j : Nat} {a : UInt8} (h : l[j]? = some a) : l.set j a = l := by
  obtain ⟨hj, rfl⟩ := List.getElem?_eq_some_iff.1 h
  exact List.set_getElem_self hj
theorem turned_at (f t : Nat) (l : List UInt8) (j : Nat) (a : UInt8) (ha : l[j]? = some a) : ((l.take j).map (turnB f t) ++ l.drop j)[j]? = some a := by
  obtain ⟨hj, hv⟩ := List.getElem?_eq_some_iff.1 ha
  rw [List.getElem?_append_right (by simp; omega)]
  rw [show j - ((l.take j).map (turnB f t)).length = 0 by simp; omega, List.getElem?_drop]
  simpa using ha
set_option maxRecDepth 100000 in
set_option maxHeartbeats 600000 in
theorem texts_eachUp (s : ByteArray) (hs : s.size ≤ 1000000000000) (w : World) : Calls Tryz.prog 87 #[.string s, .int .u8 97, .int .u8 65] w fun e w' => e = .returned (.string (eachX 97 65 s)) ∧ Below w.heap.size w w' := by
  have hcv : ∀ w, (convert 9 194 (.string s)).run Tryz.prog w = .ok (.slice (some ⟨w.heap.size, 0, none⟩) s.size (grownCap w s.size 0 5)) (w.drew.alloc (.cells (bytesRow s (grownCap w s.size 0 5)) 5 ((bytesRow s (grownCap w s.size 0 5)).size, (bytesRow s (grownCap w s.size 0 5)).size + 1))) := fun w => run_bytes_of_string w _ _ 5 s Tryz.underlying9 Tryz.underlying194 Tryz.underlying5
  obtain ⟨l, hl⟩ : ∃ l, s.data.toList = l := ⟨_, rfl⟩
  obtain ⟨n, hn⟩ : ∃ n, l.length = n := ⟨_, rfl⟩
  have hsn : s.size = n := by rw [← hn, ← hl, Array.length_toList]; rfl
  have hx : eachX 97 65 s = ⟨(l.map (turnB 97 65)).toArray⟩ := by unfold eachX; rw [hl]
  have hcap : s.size ≤ grownCap w s.size 0 5 := grownCap_ge _ _ _ _
  have HR0 := Lib.hid (row8_new w.drew s (grownCap w s.size 0 5) hcap _ rfl)
  rw [hl] at HR0
  rw [hx]
  rw [hsn] at hcv HR0 hs
  have HN := Lib.hid hn
  clear hl hx hcap hsn hn
  go_enter Tryz.func87, Tryz.ntmps87
  go_wp2
  go_loopw [14] (fun u wr => ∃ j : Nat, j ≤ n ∧ u = .int .i64 j ∧ Below w.heap.size w wr ∧ Row8 wr w.heap.size ((l.take j).map (turnB 97 65) ++ l.drop j)) (fun u _ => n - (intOf u).toNat)
  case atStart => exact ⟨0, Nat.zero_le _, rfl, (by (with_reducible repeat' (first | exact .refl _ _ | assumption | refine bmP ?_ ?_ | refine baP ?_ _ ?_ | refine .drew ?_ | refine .setCell ?_ ?_ _ | refine bdP ?_ _)) <;> go_size), HR0.out⟩
  case round =>
    obtain ⟨j, hj, rfl, hB, hR⟩ := hrel
    have HB := Lib.hid hB
    have HR := Lib.hid hR
    have hsz := hB.size
    have hgl := hR.lt
    clear hB hR
    by_cases hlt : j < n
    · obtain ⟨a, ha⟩ : ∃ a, l[j]? = some a := ⟨_, List.getElem?_eq_getElem (show j < l.length by have := HN.out; omega)⟩
      have c0 := HR.out.at0 j _ (show (B8 ((l.take j).map (turnB 97 65) ++ l.drop j))[j]? = some (.int .u8 ((a.toNat : Nat) : Int)) by simp only [B8, List.getElem?_map, turned_at _ _ l j a ha, Option.map_some])
      have hlen : ((l.take j).map (turnB 97 65) ++ l.drop j).length = n := by have := HN.out; simp; omega
      have f0 := HR.out.fr j (by rw [hlen]; exact hlt)
      have hset := row8_set (b := turnB 97 65 a) HR.out (by rw [hlen]; exact hlt)
      rw [turned_step _ _ l j a ha] at hset
      have HS := Lib.hid hset
      have ha256 := a.toNat_lt
      by_cases hc : 97 ≤ a.toNat ∧ a.toNat < 97 + 26
      · have htn : (turnB 97 65 a).toNat = a.toNat - 97 + 65 := by
          unfold turnB
          rw [if_pos hc]
          simp
          omega
        obtain ⟨z, hz⟩ : ∃ z : Nat, a.toNat - 97 + 65 = z := ⟨_, rfl⟩
        rw [hz] at htn
        have HTN := Lib.hid htn
        obtain ⟨b, hb⟩ : ∃ b : Nat, a.toNat = b := ⟨_, rfl⟩
        rw [hb] at c0 hc ha256 hz
        obtain ⟨hc1, hc2⟩ := hc
        obtain ⟨d, hd⟩ : ∃ d : Nat, b = d + 97 := ⟨b - 97, by omega⟩
        have k1 : (97 : Int) ≤ (b : Int) := by omega
        have k2 : (b : Int) < 123 := by omega
        have k3 : IntKind.u8.wrap (b - 97 : Int) = (d : Int) := by rw [IntKind.wrap_u8]; omega
        have k4 : IntKind.u8.wrap (d + 65 : Int) = (z : Int) := by rw [IntKind.wrap_u8]; omega
        have k5 : (b : Int) - 97 = (d : Int) := by omega
        have k6 : (d : Int) + 65 = (z : Int) := by omega
        have hz256 : z < 256 := by omega
        clear hset hlen ha hz hb hd htn hc1 hc2
        go_wp2
        go_roundw
        case rel => exact ⟨j + 1, by omega, by go_num, (by have hB := HB.out; exact (by (with_reducible repeat' (first | exact .refl _ _ | assumption | refine bmP ?_ ?_ | refine baP ?_ _ ?_ | refine .drew ?_ | refine .setCell ?_ ?_ _ | refine bdP ?_ _)) <;> go_size)), by have h := HS.out; rw [HTN.out] at h; exact h⟩
        case measure => simp [intOf]; omega
      · have htn : turnB 97 65 a = a := by unfold turnB; rw [if_neg hc]
        have hR2 : Row8 wr w.heap.size ((l.take (j + 1)).map (turnB 97 65) ++ l.drop (j + 1)) := by
          have h1 := turned_step 97 65 l j a ha
          rw [htn, set_same (turned_at _ _ l j a ha)] at h1
          rw [← h1]
          exact HR.out
        have HR2 := Lib.hid hR2
        by_cases hc1 : 97 ≤ a.toNat
        · have k1 : (97 : Int) ≤ (a.toNat : Int) := by omega
          have k2 : ¬ (a.toNat : Int) < 123 := by omega
          clear hset hlen ha htn hR2
          go_wp2
          go_roundw
          case rel => exact ⟨j + 1, by omega, by go_num, HB.out, HR2.out⟩
          case measure => simp [intOf]; omega
        · have k1 : ¬ (97 : Int) ≤ (a.toNat : Int) := by omega
          clear hset hlen ha htn hR2
          go_wp2
          go_roundw
          case rel => exact ⟨j + 1, by omega, by go_num, HB.out, HR2.out⟩
          case measure => simp [intOf]; omega
    · obtain rfl : j = n := by omega
      have hR := HR.out
      rw [List.take_of_length_le (by have := HN.out; omega), List.drop_of_length_le (by have := HN.out; omega), List.append_nil] at hR
      have hbk := row8_back (cap := grownCap w j 0 5) hR
      rw [List.length_map, HN.out] at hbk
      clear hR
      go_wp2
      go_returns
      exact ⟨rfl, HB.out⟩
set_option maxRecDepth 100000 in
set_option maxHeartbeats 600000 in
theorem texts_eachLow (s : ByteArray) (hs : s.size ≤ 1000000000000) (w : World) : Calls Tryz.prog 87 #[.string s, .int .u8 65, .int .u8 97] w fun e w' => e = .returned (.string (eachX 65 97 s)) ∧ Below w.heap.size w w' := by
  have hcv : ∀ w, (convert 9 194 (.string s)).run Tryz.prog w = .ok (.slice (some ⟨w.heap.size, 0, none⟩) s.size (grownCap w s.size 0 5)) (w.drew.alloc (.cells (bytesRow s (grownCap w s.size 0 5)) 5 ((bytesRow s (grownCap w s.size 0 5)).size, (bytesRow s (grownCap w s.size 0 5)).size + 1))) := fun w => run_bytes_of_string w _ _ 5 s Tryz.underlying9 Tryz.underlying194 Tryz.underlying5
  obtain ⟨l, hl⟩ : ∃ l, s.data.toList = l := ⟨_, rfl⟩
  obtain ⟨n, hn⟩ : ∃ n, l.length = n := ⟨_, rfl⟩
  have hsn : s.size = n := by rw [← hn, ← hl, Array.length_toList]; rfl
  have hx : eachX 65 97 s = ⟨(l.map (turnB 65 97)).toArray⟩ := by unfold eachX; rw [hl]
  have hcap : s.size ≤ grownCap w s.size 0 5 := grownCap_ge _ _ _ _
  have HR0 := Lib.hid (row8_new w.drew s (grownCap w s.size 0 5) hcap _ rfl)
  rw [hl] at HR0
  rw [hx]
  rw [hsn] at hcv HR0 hs
  have HN := Lib.hid hn
  clear hl hx hcap hsn hn
  go_enter Tryz.func87, Tryz.ntmps87
  go_wp2
  go_loopw [14] (fun u wr => ∃ j : Nat, j ≤ n ∧ u = .int .i64 j ∧ Below w.heap.size w wr ∧ Row8 wr w.heap.size ((l.take j).map (turnB 65 97) ++ l.drop j)) (fun u _ => n - (intOf u).toNat)
  case atStart => exact ⟨0, Nat.zero_le _, rfl, (by (with_reducible repeat' (first | exact .refl _ _ | assumption | refine bmP ?_ ?_ | refine baP ?_ _ ?_ | refine .drew ?_ | refine .setCell ?_ ?_ _ | refine bdP ?_ _)) <;> go_size), HR0.out⟩
  case round =>
    obtain ⟨j, hj, rfl, hB, hR⟩ := hrel
    have HB := Lib.hid hB
    have HR := Lib.hid hR
    have hsz := hB.size
    have hgl := hR.lt
    clear hB hR
    by_cases hlt : j < n
    · obtain ⟨a, ha⟩ : ∃ a, l[j]? = some a := ⟨_, List.getElem?_eq_getElem (show j < l.length by have := HN.out; omega)⟩
      have c0 := HR.out.at0 j _ (show (B8 ((l.take j).map (turnB 65 97) ++ l.drop j))[j]? = some (.int .u8 ((a.toNat : Nat) : Int)) by simp only [B8, List.getElem?_map, turned_at _ _ l j a ha, Option.map_some])
      have hlen : ((l.take j).map (turnB 65 97) ++ l.drop j).length = n := by have := HN.out; simp; omega
      have f0 := HR.out.fr j (by rw [hlen]; exact hlt)
      have hset := row8_set (b := turnB 65 97 a) HR.out (by rw [hlen]; exact hlt)
      rw [turned_step _ _ l j a ha] at hset
      have HS := Lib.hid hset
      have ha256 := a.toNat_lt
      by_cases hc : 65 ≤ a.toNat ∧ a.toNat < 65 + 26
      · have htn : (turnB 65 97 a).toNat = a.toNat - 65 + 97 := by
          unfold turnB
          rw [if_pos hc]
          simp
          omega
        obtain ⟨z, hz⟩ : ∃ z : Nat, a.toNat - 65 + 97 = z := ⟨_, rfl⟩
        rw [hz] at htn
        have HTN := Lib.hid htn
        obtain ⟨b, hb⟩ : ∃ b : Nat, a.toNat = b := ⟨_, rfl⟩
        rw [hb] at c0 hc ha256 hz
        obtain ⟨hc1, hc2⟩ := hc
        obtain ⟨d, hd⟩ : ∃ d : Nat, b = d + 65 := ⟨b - 65, by omega⟩
        have k1 : (65 : Int) ≤ (b : Int) := by omega
        have k2 : (b : Int) < 91 := by omega
        have k3 : IntKind.u8.wrap (b - 65 : Int) = (d : Int) := by rw [IntKind.wrap_u8]; omega
        have k4 : IntKind.u8.wrap (d + 97 : Int) = (z : Int) := by rw [IntKind.wrap_u8]; omega
        have k5 : (b : Int) - 65 = (d : Int) := by omega
        have k6 : (d : Int) + 97 = (z : Int) := by omega
        have hz256 : z < 256 := by omega
        clear hset hlen ha hz hb hd htn hc1 hc2
        go_wp2
        go_roundw
        case rel => exact ⟨j + 1, by omega, by go_num, (by have hB := HB.out; exact (by (with_reducible repeat' (first | exact .refl _ _ | assumption | refine bmP ?_ ?_ | refine baP ?_ _ ?_ | refine .drew ?_ | refine .setCell ?_ ?_ _ | refine bdP ?_ _)) <;> go_size)), by have h := HS.out; rw [HTN.out] at h; exact h⟩
        case measure => simp [intOf]; omega
      · have htn : turnB 65 97 a = a := by unfold turnB; rw [if_neg hc]
        have hR2 : Row8 wr w.heap.size ((l.take (j + 1)).map (turnB 65 97) ++ l.drop (j + 1)) := by
          have h1 := turned_step 65 97 l j a ha
          rw [htn, set_same (turned_at _ _ l j a ha)] at h1
          rw [← h1]
          exact HR.out
        have HR2 := Lib.hid hR2
        by_cases hc1 : 65 ≤ a.toNat
        · have k1 : (65 : Int) ≤ (a.toNat : Int) := by omega
          have k2 : ¬ (a.toNat : Int) < 91 := by omega
          clear hset hlen ha htn hR2
          go_wp2
          go_roundw
          case rel => exact ⟨j + 1, by omega, by go_num, HB.out, HR2.out⟩
          case measure => simp [intOf]; omega
        · have k1 : ¬ (65 : Int) ≤ (a.toNat : Int) := by omega
          clear hset hlen ha htn hR2
          go_wp2
          go_roundw
          case rel => exact ⟨j + 1, by omega, by go_num, HB.out, HR2.out⟩
          case measure => simp [intOf]; omega
    · obtain rfl : j = n := by omega
      have hR := HR.out
      rw [List.take_of_length_le (by have := HN.out; omega), List.drop_of_length_le (by have := HN.out; omega), List.append_nil] at hR
      have hbk := row8_back (cap := grownCap w j 0 5) hR
      rw [List.length_map, HN.out] at hbk
      clear hR
      go_wp2
      go_returns
      exact ⟨rfl, HB.out⟩
theorem texts_upper (s : ByteArray) (hs : s.size ≤ 1000000000000) (w : World) : Calls Tryz.prog 86 #[.string s] w fun e w' => e = .returned (.string (eachX 97 65 s)) ∧ Below w.heap.size w w' := by
  have HS := Lib.hid hs
  clear hs
  go_enter Tryz.func86, Tryz.ntmps86
  go_wp2_with (first | (go_at_call 87; refine (texts_eachUp s HS.out _).mono ?_; rintro e w1 ⟨rfl, hb⟩; obtain ⟨l1, m1, rfl⟩ := more_of_below hb; clear hb))
  all_goals go_returns
  all_goals exact ⟨rfl, (by (with_reducible repeat' (first | exact .refl _ _ | assumption | refine bmP ?_ ?_ | refine baP ?_ _ ?_ | refine .drew ?_ | refine .setCell ?_ ?_ _ | refine bdP ?_ _)) <;> go_size)⟩
theorem texts_lower (s : ByteArray) (hs : s.size ≤ 1000000000000) (w : World) : Calls Tryz.prog 88 #[.string s] w fun e w' => e = .returned (.string (eachX 65 97 s)) ∧ Below w.heap.size w w' := by
  have HS := Lib.hid hs
  clear hs
  go_enter Tryz.func88, Tryz.ntmps88
  go_wp2_with (first | (go_at_call 87; refine (texts_eachLow s HS.out _).mono ?_; rintro e w1 ⟨rfl, hb⟩; obtain ⟨l1, m1, rfl⟩ := more_of_below hb; clear hb))
  all_goals go_returns
  all_goals exact ⟨rfl, (by (with_reducible repeat' (first | exact .refl _ _ | assumption | refine bmP ?_ ?_ | refine baP ?_ _ ?_ | refine .drew ?_ | refine .setCell ?_ ?_ _ | refine bdP ?_ _)) <;> go_size)⟩
end Go.Proofs.YtegbhdeaicgpkaaGreatDoor
namespace Go.Proofs.YtegbhdeaicgpkaaGreatDoor
open Go Go.RowKit
theorem below_putRow {α : Type} [Inhabited α] {B blk : Nat} {w w' : World} (h : Below B w w') (hB : B ≤ blk) (enc : α → Value) (n off : Nat) (d : Array α) : Below B w (Sort.putRow enc (Sort.ahead w' n) blk off d) := by
  refine ⟨h.os, h.tape, h.output, by simpa using h.size, fun k hk => ?_⟩
  have hne : blk ≠ k := by omega
  rw [← h.block k hk]
  simp [Sort.putRow, Sort.mapBlock, Array.getElem?_modify, hne]
def enc8 : UInt8 → Value := fun b => .int .u8 ((b.toNat : Nat) : Int)
theorem row8_holds {w : World} {g : Nat} {l : List UInt8} (h : Row8 w g l) : Sort.Holds enc8 w g 0 l.toArray := by
  intro j hj
  have hj' : j < l.length := by simpa using hj
  rw [Nat.zero_add]
  refine ⟨?_, h.fr j hj'⟩
  have := h.at0 j _ (show (B8 l)[j]? = some (enc8 l[j]) by simp [B8, List.getElem?_eq_getElem hj', enc8])
  rw [this, getElem!_pos l.toArray j hj]
  simp
theorem row8_of_holds {w : World} {g : Nat} {l : List UInt8} (h : Sort.Holds enc8 w g 0 l.toArray) (hg : g < w.heap.size) : Row8 w g l := by
  refine ⟨fun j u hu => ?_, fun j hj => ?_, hg⟩
  · have hj : j < l.length := by have := (List.getElem?_eq_some_iff.1 hu).1; simpa [B8] using this
    have := (h j (by simpa using hj)).1
    rw [Nat.zero_add, getElem!_pos l.toArray j (by simpa using hj)] at this
    rw [this]
    simp only [B8, List.getElem?_map, List.getElem?_eq_getElem hj, Option.map_some, Option.some.injEq] at hu
    rw [← hu]
    simp [enc8]
  · have := (h j (by simpa using hj)).2
    rw [Nat.zero_add] at this
    exact this
theorem row8_put {w : World} {g n : Nat} {l l' : List UInt8} (h : Row8 w g l) (hs : l'.length = l.length) : Row8 (Sort.putRow enc8 (Sort.ahead w n) g 0 l'.toArray) g l' :=
  row8_of_holds (Sort.holds_putRow enc8 (Sort.ahead w n) g 0 l.toArray l'.toArray (Sort.holds_ahead _ _ _ _ _ _ (row8_holds h)) (by simpa using hs)) (by rw [Sort.size_putRow]; exact h.lt)
def revX (s : ByteArray) : ByteArray := ⟨s.data.toList.reverse.toArray⟩
theorem reverse8 (g cap : Nat) (l : List UInt8) (hl : l.length ≤ 9223372036854775807) (w : World) (h : Row8 w g l) :
    Calls Tryz.prog 175 #[.slice (some ⟨g, 0, none⟩) l.length cap] w fun e w' => e = .returned (.tuple #[]) ∧ ∃ n, w' = Sort.putRow enc8 (Sort.ahead w n) g 0 l.reverse.toArray :=
  AnyE.slices_Reverse Tryz.layRev enc8 (fun _ => rfl) g 0 cap l w (row8_holds h) hl
set_option maxRecDepth 100000 in
set_option maxHeartbeats 600000 in
theorem texts_rev (s : ByteArray) (hs : s.size ≤ 1000000000000) (w : World) : Calls Tryz.prog 99 #[.string s] w fun e w' => e = .returned (.string (revX s)) ∧ Below w.heap.size w w' := by
  have hcv : ∀ w, (convert 9 194 (.string s)).run Tryz.prog w = .ok (.slice (some ⟨w.heap.size, 0, none⟩) s.size (grownCap w s.size 0 5)) (w.drew.alloc (.cells (bytesRow s (grownCap w s.size 0 5)) 5 ((bytesRow s (grownCap w s.size 0 5)).size, (bytesRow s (grownCap w s.size 0 5)).size + 1))) := fun w => run_bytes_of_string w _ _ 5 s Tryz.underlying9 Tryz.underlying194 Tryz.underlying5
  obtain ⟨l, hl⟩ : ∃ l, s.data.toList = l := ⟨_, rfl⟩
  have hsn : s.size = l.length := by rw [← hl, Array.length_toList]; rfl
  have hx : revX s = ⟨l.reverse.toArray⟩ := by unfold revX; rw [hl]
  have hcap : s.size ≤ grownCap w s.size 0 5 := grownCap_ge _ _ _ _
  have HR0 : Hid (Row8 (w.alloc (.cells (bytesRow s (grownCap w s.size 0 5)) 5 ((bytesRow s (grownCap w s.size 0 5)).size, (bytesRow s (grownCap w s.size 0 5)).size + 1))).drew w.heap.size s.data.toList) := Lib.hid (row8_new w.drew s (grownCap w s.size 0 5) hcap _ rfl)
  rw [hl] at HR0
  rw [hx]
  rw [hsn] at hcv HR0 hs
  have HS := Lib.hid hs
  clear hl hx hcap hsn hs
  go_enter Tryz.func99, Tryz.ntmps99
  go_wp2_with (first | (go_at_call 175; refine (reverse8 _ _ l (by have := HS.out; omega) _ HR0.out).mono ?_; rintro e w1 ⟨rfl, n1, rfl⟩; have hbk := row8_back (cap := grownCap w l.length 0 5) (row8_put (n := n1) HR0.out (List.length_reverse)); rw [List.length_reverse] at hbk))
  all_goals go_returns
  all_goals exact ⟨rfl, by refine below_putRow ?_ (by simp) _ _ _ _; exact (by (with_reducible repeat' (first | exact .refl _ _ | assumption | refine bmP ?_ ?_ | refine baP ?_ _ ?_ | refine .drew ?_ | refine .setCell ?_ ?_ _ | refine bdP ?_ _)) <;> go_size)⟩
end Go.Proofs.YtegbhdeaicgpkaaGreatDoor
namespace Go.Proofs.YtegbhdeaicgpkaaGreatDoor
open Go Go.RowKit
def concatGo (text : Nat) : List ByteArray → List UInt8 → V
  | [], acc => toldX text ⟨acc.toArray⟩
  | s :: r, acc => if (text : Int) - acc.length < s.size then errG 7 else concatGo text r (acc ++ s.data.toList)
theorem concat_stop {text : Nat} {ss : List ByteArray} {k : Nat} {s : ByteArray} {acc : List UInt8} (h : ss[k]? = some s) (hl : (text : Int) - acc.length < s.size) : concatGo text (ss.drop k) acc = errG 7 := by
  obtain ⟨hk, rfl⟩ := List.getElem?_eq_some_iff.1 h
  rw [List.drop_eq_getElem_cons hk, concatGo, if_pos hl]
theorem concat_step {text : Nat} {ss : List ByteArray} {k : Nat} {s : ByteArray} {acc : List UInt8} (h : ss[k]? = some s) (hl : ¬ (text : Int) - acc.length < s.size) : concatGo text (ss.drop k) acc = concatGo text (ss.drop (k + 1)) (acc ++ s.data.toList) := by
  obtain ⟨hk, rfl⟩ := List.getElem?_eq_some_iff.1 h
  rw [List.drop_eq_getElem_cons hk, concatGo, if_neg hl]
theorem byteCells_app (a : List UInt8) (s : ByteArray) : Lib.byteCells a ++ Lib.strCells s = Lib.byteCells (a ++ s.data.toList) := by
  rw [Lib.strCells_eq, Lib.byteCells, Lib.byteCells, Lib.byteCells, List.map_append]
theorem more_again {W w' : World} {l : List Obj} {q B : Nat} (hB : W.heap.size = B) (h : Below B (more W l q) w') : ∃ l' q', w' = more W l' q' := by
  subst hB
  exact more_of_below ((below_more (Nat.le_refl _)).trans h)
theorem len_more {B b : Nat} {acc : List UInt8} {W : World} {l : List Obj} {p q x m : Nat} (hm : acc.length = m) (h : Lib.IsBuilder 202 5 B b (Lib.byteCells acc) (more W l p)) :
    Calls Tryz.prog 169 #[.pointer (some ⟨b, 0, none⟩)] (more W l (q + x)) fun e w' => e = .returned (.int .i64 (m : Nat)) ∧ ∃ n, w' = more W l (q + n) := by
  subst hm
  have h1 := Tryz.Builder_Len B b (Lib.byteCells acc) (more W l (q + x)) h
  refine h1.mono ?_
  rintro e w' ⟨rfl, rfl⟩
  exact ⟨by simp [Lib.byteCells], _, rfl⟩
theorem write_more {b : Nat} {acc : List UInt8} {W : World} {l : List Obj} {p q m : Nat} (hm : acc.length = m) (hB : W.heap.size = b) (s : ByteArray) (hsz : m + s.size ≤ 140737488355328) (h : Lib.IsBuilder 202 5 b b (Lib.byteCells acc) (more W l p)) :
    Calls Tryz.prog 170 #[.pointer (some ⟨b, 0, none⟩), .string s] (more W l q) fun e w' => e = .returned (.tuple #[.int .i64 s.size, .nilIface]) ∧ ∃ l' q', w' = more W l' q' ∧ Lib.IsBuilder 202 5 b b (Lib.byteCells (acc ++ s.data.toList)) (more W l' q') := by
  subst hm
  have hbl : (Lib.byteCells acc).length = acc.length := by simp [Lib.byteCells]
  refine (write_string b b (Lib.byteCells acc) s (more W l q) h (by rw [hbl]; exact hsz) (by simp; omega)).mono ?_
  rintro e w' ⟨rfl, h1, hb⟩
  obtain ⟨l', q', rfl⟩ := more_again hB hb
  rw [byteCells_app] at h1
  exact ⟨rfl, l', q', rfl, .inr h1⟩
theorem string_more {b : Nat} {acc : List UInt8} {W : World} {l : List Obj} {p q : Nat} (hB : W.heap.size = b) (h : Lib.IsBuilder 202 5 b b (Lib.byteCells acc) (more W l p)) :
    Calls Tryz.prog 171 #[.pointer (some ⟨b, 0, none⟩)] (more W l q) fun e w' => e = .returned (.string ⟨acc.toArray⟩) ∧ ∃ l' q', w' = more W l' q' := by
  refine (Tryz.Builder_String_any b b acc (more W l q) h (by simp; omega)).mono ?_
  rintro e w' ⟨rfl, hb⟩
  exact ⟨rfl, more_again hB hb⟩
set_option maxRecDepth 100000 in
set_option maxHeartbeats 600000 in
theorem texts_concat (gs c1 : Nat) (ss : List ByteArray) (hss : ss.length ≤ 1000) (nv : Value) (text : Nat) (ht : text ≤ 100000) (w : World) (hl : gs < w.heap.size)
    (h : ∀ j s, ss[j]? = some s → w.cell? ⟨gs, j, none⟩ = some (.string s)) :
    Calls Tryz.prog 94 #[.agg #[.slice (some ⟨gs, 0, none⟩) ss.length c1, nv, .int .i64 text]] w fun e w' => e = .returned (Value.agg #[Value.int .i64 (concatGo text ss []).tag, Value.int .i64 (concatGo text ss []).num, Value.string (concatGo text ss []).str, Value.bool (concatGo text ss []).is, Value.int .i64 (concatGo text ss []).code]) ∧ Below w.heap.size w w' := by
  obtain ⟨n, hn⟩ : ∃ n, ss.length = n := ⟨_, rfl⟩
  have HN := Lib.hid hn
  have HC := Lib.hid h
  rw [hn] at hss ⊢
  clear hn h
  obtain ⟨R, hR⟩ : ∃ R, concatGo text ss [] = R := ⟨_, rfl⟩
  have HR := Lib.hid hR
  rw [hR]
  clear hR
  have hl1 : gs < w.heap.size + 1 := by omega
  have hl2 : gs < w.heap.size + 1 + 1 := by omega
  go_enter Tryz.func94, Tryz.ntmps94
  go_wp2
  go_loopw [9] (fun u wr => ∃ k : Nat, ∃ acc : List UInt8, k ≤ n ∧ u = .int .i64 k ∧ acc.length ≤ text ∧ concatGo text (ss.drop k) acc = R ∧ Below ((w.alloc (.cells #[.slice (some ⟨gs, 0, none⟩) n c1, nv, .int .i64 text] 108)).alloc (.cells #[.int .i64 0, .int .i64 0, .string ⟨#[]⟩, .bool false, .int .i64 0] 29)).heap.size ((w.alloc (.cells #[.slice (some ⟨gs, 0, none⟩) n c1, nv, .int .i64 text] 108)).alloc (.cells #[.int .i64 0, .int .i64 0, .string ⟨#[]⟩, .bool false, .int .i64 0] 29)) wr ∧ Lib.IsBuilder 202 5 (w.heap.size + 1 + 1) (w.heap.size + 1 + 1) (Lib.byteCells acc) wr) (fun u _ => n - (intOf u).toNat)
  case atStart => exact ⟨0, [], Nat.zero_le _, rfl, Nat.zero_le _, HR.out, (by (with_reducible repeat' (first | exact .refl _ _ | assumption | refine bmP ?_ ?_ | refine baP ?_ _ ?_ | refine .drew ?_ | refine .setCell ?_ ?_ _ | refine bdP ?_ _)) <;> go_size), by have := Lib.fresh_isBuilder 202 5 ((w.alloc (.cells #[.slice (some ⟨gs, 0, none⟩) n c1, nv, .int .i64 text] 108)).alloc (.cells #[.int .i64 0, .int .i64 0, .string ⟨#[]⟩, .bool false, .int .i64 0] 29)); simpa [Lib.byteCells] using this⟩
  case round =>
    obtain ⟨k, acc, hk, rfl, ha, hrest, hB, hb⟩ := hrel
    obtain ⟨l0, q0, rfl⟩ := more_of_below hB
    have HBU := Lib.hid hb
    have HRE := Lib.hid hrest
    have hbl : (Lib.byteCells acc).length = acc.length := by simp [Lib.byteCells]
    clear hb hrest hB
    by_cases hlt : k < n
    · obtain ⟨s, hs⟩ : ∃ s, ss[k]? = some s := ⟨_, List.getElem?_eq_getElem (show k < ss.length by have := HN.out; omega)⟩
      have c0 := HC.out k s hs
      obtain ⟨m, hm⟩ : ∃ m, acc.length = m := ⟨_, rfl⟩
      rw [hm] at ha
      by_cases hlong : (text : Int) - m < s.size
      · have hw1 : IntKind.i64.wrap ((text : Int) - m) = (text : Int) - m := by rw [IntKind.wrap_i64]; omega
        have hres : R = errG 7 := by rw [← HRE.out]; exact concat_stop hs (by rw [hm]; exact hlong)
        clear hs
        subst hres
        go_wp2_with fail
        go_quiet (first | (go_at_call 169; exact len_more hm HBU.out))
        go_wp2_with (first | (go_at_call 27; refine (value_Err _ _).mono ?_; rintro e w1 ⟨rfl, hb⟩; obtain ⟨l1, m1, rfl⟩ := more_of_below hb; clear hb))
        all_goals go_returns
        all_goals exact ⟨rfl, (by (with_reducible repeat' (first | exact .refl _ _ | assumption | refine bmP ?_ ?_ | refine baP ?_ _ ?_ | refine .drew ?_ | refine .setCell ?_ ?_ _ | refine bdP ?_ _)) <;> go_size)⟩
      · have hw1 : IntKind.i64.wrap ((text : Int) - m) = (text : Int) - m := by rw [IntKind.wrap_i64]; omega
        have hnext := HRE.out
        rw [concat_step hs (by rw [hm]; exact hlong)] at hnext
        have HNX := Lib.hid hnext
        have HAL : Hid ((acc ++ s.data.toList).length ≤ text) := Lib.hid (by rw [List.length_append, hm, Array.length_toList]; have : s.data.size = s.size := rfl; omega)
        have hsz : m + s.size ≤ 140737488355328 := by omega
        clear hs hnext
        go_wp2_with fail
        go_quiet (first | (go_at_call 169; exact len_more hm HBU.out))
        go_wp2_with (first | (go_at_call 170; refine (write_more hm (by simp) s hsz HBU.out).mono ?_; rintro e w1 ⟨rfl, l1, q1, rfl, h1⟩; have HB1 := Lib.hid h1; clear h1))
        go_roundw
        case rel => exact ⟨k + 1, acc ++ s.data.toList, by omega, by go_num, HAL.out, HNX.out, (by (with_reducible repeat' (first | exact .refl _ _ | assumption | refine bmP ?_ ?_ | refine baP ?_ _ ?_ | refine .drew ?_ | refine .setCell ?_ ?_ _ | refine bdP ?_ _)) <;> go_size), HB1.out⟩
        case measure => simp [intOf]; omega
    · obtain rfl : k = n := by omega
      have hres := HRE.out
      rw [List.drop_of_length_le (by have := HN.out; omega), concatGo] at hres
      rw [← hres]
      go_wp2_with fail
      go_region_with (first | (go_at_call 171; refine (string_more (by simp) HBU.out).mono ?_; rintro e w1 ⟨rfl, l1, q1, rfl⟩) | (go_at_call 163; refine (texts_told _ _ _ _ _).mono ?_; rintro e w1 ⟨rfl, hb⟩; obtain ⟨l2, m2, rfl⟩ := more_of_below hb; clear hb))
      all_goals go_wp2
      all_goals go_returns
      all_goals exact ⟨rfl, (by (with_reducible repeat' (first | exact .refl _ _ | assumption | refine bmP ?_ ?_ | refine baP ?_ _ ?_ | refine .drew ?_ | refine .setCell ?_ ?_ _ | refine bdP ?_ _)) <;> go_size)⟩
end Go.Proofs.YtegbhdeaicgpkaaGreatDoor
namespace Go.Proofs.YtegbhdeaicgpkaaGreatDoor
open Go Go.RowKit
def MaxL (w : World) : Prop := ∃ m, w.cell? ⟨2, 0, none⟩ = some (.int .i64 m)
theorem MaxL.below {w w' : World} (h : MaxL w) (hb : Below w.heap.size w w') : MaxL w' := by
  obtain ⟨m, hm⟩ := h
  exact ⟨m, (hb.cell (p := ⟨2, 0, none⟩) (World.block_lt_of_cell? w _ hm)).trans hm⟩
theorem cut_more (l t : List UInt8) (w : World) (hm : MaxL w) (hl : l.length < 4294967281) :
    Calls Tryz.prog 168 #[.string ⟨l.toArray⟩, .string ⟨t.toArray⟩] w fun e w' => e = .returned (.tuple #[.string ⟨(Lib.cut l t).1.toArray⟩, .string ⟨(Lib.cut l t).2.1.toArray⟩, .bool (Lib.cut l t).2.2]) ∧ ∃ n, w' = w.drewN n := by
  obtain ⟨m, hm⟩ := hm
  exact Tryz.strings_Cut ⟨l.toArray⟩ ⟨t.toArray⟩ m w hl hm
theorem cut_fst_le (l t : List UInt8) : (Lib.cut l t).1.length ≤ l.length := by
  unfold Lib.cut
  split
  · simp; omega
  · simp
theorem cut_rest_lt (l t : List UInt8) (ht : t ≠ []) (h : (Lib.cut l t).2.2 = true) : (Lib.cut l t).2.1.length < l.length := by
  unfold Lib.cut at h ⊢
  split at h
  · rename_i h0
    rw [if_pos h0]
    have h1 := Lib.index_room l t h0
    have h2 := List.length_pos_iff.2 ht
    simp only [List.length_drop]
    omega
  · cases h
theorem write_list {b : Nat} {acc : List UInt8} {W : World} {l : List Obj} {p q m : Nat} (hm : acc.length = m) (hB : W.heap.size = b) (x : List UInt8) (hsz : m + (⟨x.toArray⟩ : ByteArray).size ≤ 140737488355328) (h : Lib.IsBuilder 202 5 b b (Lib.byteCells acc) (more W l p)) :
    Calls Tryz.prog 170 #[.pointer (some ⟨b, 0, none⟩), .string ⟨x.toArray⟩] (more W l q) fun e w' => e = .returned (.tuple #[.int .i64 (⟨x.toArray⟩ : ByteArray).size, .nilIface]) ∧ ∃ l' q', w' = more W l' q' ∧ Lib.IsBuilder 202 5 b b (Lib.byteCells (acc ++ x)) (more W l' q') :=
  write_more hm hB ⟨x.toArray⟩ hsz h
def substGo (text : Nat) (t u : List UInt8) : Nat → List UInt8 → List UInt8 → V
  | 0, _, _ => errG 7
  | f + 1, l, acc =>
    if text < acc.length + (Lib.cut l t).1.length then errG 7
    else if (Lib.cut l t).2.2 = false then toldX text ⟨(acc ++ (Lib.cut l t).1).toArray⟩
    else if text < (acc ++ (Lib.cut l t).1 ++ u).length then errG 7
    else substGo text t u f (Lib.cut l t).2.1 (acc ++ (Lib.cut l t).1 ++ u)
def substX (text : Nat) (s t u : ByteArray) : V := if t.data.toList = [] then errG 8 else substGo text t.data.toList u.data.toList (s.size + 1) s.data.toList []
def strLen : Value → Nat
  | .string s => s.size
  | _ => 0
theorem mk_data (s : ByteArray) : (⟨s.data.toList.toArray⟩ : ByteArray) = s := by cases s; simp
set_option maxRecDepth 100000 in
set_option maxHeartbeats 1048576 in
theorem texts_subst (gs c1 : Nat) (s t u : ByteArray) (hs : s.size ≤ 1048576) (hu : u.size ≤ 1048576) (nv : Value) (text : Nat) (ht : text ≤ 100000) (w : World) (hM : MaxL w) (h0 : w.cell? ⟨gs, 0, none⟩ = some (.string s)) (h1 : w.cell? ⟨gs, 1, none⟩ = some (.string t)) (h2 : w.cell? ⟨gs, 2, none⟩ = some (.string u)) :
    Calls Tryz.prog 92 #[.agg #[.slice (some ⟨gs, 0, none⟩) 3 c1, nv, .int .i64 text]] w fun e w' => e = .returned (Value.agg #[Value.int .i64 (substX text s t u).tag, Value.int .i64 (substX text s t u).num, Value.string (substX text s t u).str, Value.bool (substX text s t u).is, Value.int .i64 (substX text s t u).code]) ∧ Below w.heap.size w w' := by
  have hl : gs < w.heap.size := World.block_lt_of_cell? w _ h0
  have hl1 : gs < w.heap.size + 1 := by omega
  have hl2 : gs < w.heap.size + 1 + 1 := by omega
  unfold substX
  by_cases hte : t.data.toList = []
  · rw [if_pos hte]
    obtain rfl : t = ⟨#[]⟩ := by
      rw [← mk_data t, hte]
    clear hte
    go_enter Tryz.func92, Tryz.ntmps92
    go_wp2_with fail
    go_quiet (fail)
    go_wp2_with (first | (go_at_call 27; refine (value_Err _ _).mono ?_; rintro e w1 ⟨rfl, hb⟩; obtain ⟨l1, m1, rfl⟩ := more_of_below hb; clear hb))
    all_goals go_returns
    all_goals exact ⟨rfl, (by (with_reducible repeat' (first | exact .refl _ _ | assumption | refine bmP ?_ ?_ | refine baP ?_ _ ?_ | refine .drew ?_ | refine .setCell ?_ ?_ _ | refine bdP ?_ _)) <;> go_size)⟩
  · rw [if_neg hte]
    obtain ⟨R, hR⟩ : ∃ R, substGo text t.data.toList u.data.toList (s.size + 1) s.data.toList [] = R := ⟨_, rfl⟩
    rw [hR]
    obtain ⟨ls, hls⟩ : ∃ l, s.data.toList = l := ⟨_, rfl⟩
    obtain ⟨lt, hlt⟩ : ∃ l, t.data.toList = l := ⟨_, rfl⟩
    obtain ⟨lu, hlu⟩ : ∃ l, u.data.toList = l := ⟨_, rfl⟩
    have hs1 : s.size = ls.length := by rw [← hls, Array.length_toList]; rfl
    have hu1 : u.size = lu.length := by rw [← hlu, Array.length_toList]; rfl
    have hs2 : s = ⟨ls.toArray⟩ := by rw [← hls, mk_data]
    have ht2 : t = ⟨lt.toArray⟩ := by rw [← hlt, mk_data]
    have hu2 : u = ⟨lu.toArray⟩ := by rw [← hlu, mk_data]
    rw [hls, hlt, hlu, hs1] at hR
    rw [hlt] at hte
    rw [hs1] at hs
    rw [hu1] at hu
    subst hs2
    subst ht2
    subst hu2
    have hie : lt.isEmpty = false := by
      cases lt with
      | nil => exact absurd rfl hte
      | cons a r => rfl
    clear hls hlt hlu hs1 hu1
    have HR := Lib.hid hR
    have HT := Lib.hid hte
    have HMX := Lib.hid hM
    clear hR hte hM
    go_enter Tryz.func92, Tryz.ntmps92
    go_wp2_with fail
    go_quiet (fail)
    go_wp2_with fail
    go_loopw [3] (fun v wr => ∃ f : Nat, ∃ l acc : List UInt8, v = .string ⟨l.toArray⟩ ∧ l.length < f ∧ l.length ≤ 1048576 ∧ acc.length ≤ text ∧ substGo text lt lu f l acc = R ∧ Below ((w.alloc (.cells #[.slice (some ⟨gs, 0, none⟩) 3 c1, nv, .int .i64 text] 108)).alloc (.cells #[.int .i64 0, .int .i64 0, .string ⟨#[]⟩, .bool false, .int .i64 0] 29)).heap.size ((w.alloc (.cells #[.slice (some ⟨gs, 0, none⟩) 3 c1, nv, .int .i64 text] 108)).alloc (.cells #[.int .i64 0, .int .i64 0, .string ⟨#[]⟩, .bool false, .int .i64 0] 29)) wr ∧ Lib.IsBuilder 202 5 (w.heap.size + 1 + 1) (w.heap.size + 1 + 1) (Lib.byteCells acc) wr) (fun v _ => strLen v)
    case atStart => exact ⟨ls.length + 1, ls, [], rfl, Nat.lt_succ_self _, hs, Nat.zero_le _, HR.out, (by (with_reducible repeat' (first | exact .refl _ _ | assumption | refine bmP ?_ ?_ | refine baP ?_ _ ?_ | refine .drew ?_ | refine .setCell ?_ ?_ _ | refine bdP ?_ _)) <;> go_size), by have := Lib.fresh_isBuilder 202 5 ((w.alloc (.cells #[.slice (some ⟨gs, 0, none⟩) 3 c1, nv, .int .i64 text] 108)).alloc (.cells #[.int .i64 0, .int .i64 0, .string ⟨#[]⟩, .bool false, .int .i64 0] 29)); simp [Lib.byteCells] at this ⊢; exact this⟩
    case round =>
      obtain ⟨f, l, acc, rfl, hf, hlen, ha, hrest, hB, hb⟩ := hrel
      obtain ⟨f, rfl⟩ : ∃ k, f = k + 1 := ⟨f - 1, by omega⟩
      have hMr : MaxL wr := (HMX.out.below ((by (with_reducible repeat' (first | exact .refl _ _ | assumption | refine bmP ?_ ?_ | refine baP ?_ _ ?_ | refine .drew ?_ | refine .setCell ?_ ?_ _ | refine bdP ?_ _)) <;> go_size) : Below w.heap.size w _)).below hB
      obtain ⟨l0, q0, rfl⟩ := more_of_below hB
      have HBU := Lib.hid hb
      have HRE := Lib.hid hrest
      have HMR := Lib.hid hMr
      obtain ⟨m, hm⟩ : ∃ m, acc.length = m := ⟨_, rfl⟩
      rw [hm] at ha
      clear hb hrest hB hMr
      obtain ⟨bf, hbf⟩ : ∃ x, (Lib.cut l lt).1 = x := ⟨_, rfl⟩
      obtain ⟨af, haf⟩ : ∃ x, (Lib.cut l lt).2.1 = x := ⟨_, rfl⟩
      obtain ⟨fo, hfo⟩ : ∃ x, (Lib.cut l lt).2.2 = x := ⟨_, rfl⟩
      have hbl := cut_fst_le l lt
      rw [hbf] at hbl
      obtain ⟨k, hk⟩ : ∃ k, bf.length = k := ⟨_, rfl⟩
      rw [hk] at hbl
      have HCT := Lib.hid (cut_more l lt)
      rw [hbf, haf, hfo] at HCT
      have hR := HRE.out
      rw [substGo, hbf, haf, hfo, hm, hk] at hR
      have hbs : (⟨bf.toArray⟩ : ByteArray).size = k := hk
      by_cases hlong : text < m + k
      · rw [if_pos hlong] at hR
        subst hR
        have hlongI : (text : Int) < (m : Int) + (k : Int) := by omega
        have hw1 : IntKind.i64.wrap ((m : Int) + (k : Int)) = (m : Int) + k := by rw [IntKind.wrap_i64]; omega
        clear hbf haf hfo hlong hk
        go_wp2_with (first | (go_at_call 168; refine (HCT.out _ HMR.out (by omega)).mono ?_; rintro e w1 ⟨rfl, n1, rfl⟩))
        go_quiet (first | (go_at_call 169; exact len_more hm HBU.out))
        go_wp2_with (first | (go_at_call 27; refine (value_Err _ _).mono ?_; rintro e w1 ⟨rfl, hb⟩; obtain ⟨l1, m1, rfl⟩ := more_of_below hb; clear hb))
        all_goals go_returns
        all_goals exact ⟨rfl, (by (with_reducible repeat' (first | exact .refl _ _ | assumption | refine bmP ?_ ?_ | refine baP ?_ _ ?_ | refine .drew ?_ | refine .setCell ?_ ?_ _ | refine bdP ?_ _)) <;> go_size)⟩
      · rw [if_neg hlong] at hR
        have hlongI : ¬ (text : Int) < (m : Int) + (k : Int) := by omega
        have hw1 : IntKind.i64.wrap ((m : Int) + (k : Int)) = (m : Int) + k := by rw [IntKind.wrap_i64]; omega
        have hz1 : m + (⟨bf.toArray⟩ : ByteArray).size ≤ 140737488355328 := by omega
        have hm1 : (acc ++ bf).length = m + k := by rw [List.length_append, hm, hk]
        cases fo with
        | false =>
          rw [if_pos rfl] at hR
          clear hbf haf hfo hlong hk
          go_wp2_with (first | (go_at_call 168; refine (HCT.out _ HMR.out (by omega)).mono ?_; rintro e w1 ⟨rfl, n1, rfl⟩))
          go_quiet (first | (go_at_call 169; exact len_more hm HBU.out))
          go_wp2_with (first | (go_at_call_of 170 (Value.string ⟨bf.toArray⟩); refine (write_list hm (by simp) bf hz1 HBU.out).mono ?_; rintro e w1 ⟨rfl, l1, q1, rfl, h1⟩; have HB1 := Lib.hid h1; clear h1))
          go_wp2_with fail
          go_region_with (first | (go_at_call 171; refine (string_more (by simp) HB1.out).mono ?_; rintro e w2 ⟨rfl, l2, q2, rfl⟩) | (go_at_call 163; refine (texts_told _ _ _ _ _).mono ?_; rintro e w3 ⟨rfl, hb⟩; obtain ⟨l3, m3, rfl⟩ := more_of_below hb; clear hb))
          all_goals go_wp2
          all_goals go_returns
          all_goals exact ⟨rfl, (by (with_reducible repeat' (first | exact .refl _ _ | assumption | refine bmP ?_ ?_ | refine baP ?_ _ ?_ | refine .drew ?_ | refine .setCell ?_ ?_ _ | refine bdP ?_ _)) <;> go_size)⟩
        | true =>
          rw [if_neg (by decide), List.length_append, hm1] at hR
          obtain ⟨g, hg⟩ : ∃ g, lu.length = g := ⟨_, rfl⟩
          rw [hg] at hR
          have hrl := cut_rest_lt l lt HT.out hfo
          rw [haf] at hrl
          have hus : (⟨lu.toArray⟩ : ByteArray).size = g := hg
          have hz2 : m + k + (⟨lu.toArray⟩ : ByteArray).size ≤ 140737488355328 := by omega
          have hm2 : (acc ++ bf ++ lu).length = m + k + g := by rw [List.length_append, hm1, hg]
          clear hbf haf hfo hlong hk
          by_cases hlong2 : text < m + k + g
          · rw [if_pos hlong2] at hR
            subst hR
            have hlongI2 : (text : Int) < ((m + k + g : Nat) : Int) := by omega
            go_wp2_with (first | (go_at_call 168; refine (HCT.out _ HMR.out (by omega)).mono ?_; rintro e w1 ⟨rfl, n1, rfl⟩))
            go_quiet (first | (go_at_call 169; exact len_more hm HBU.out))
            go_wp2_with (first | (go_at_call_of 170 (Value.string ⟨bf.toArray⟩); refine (write_list hm (by simp) bf hz1 HBU.out).mono ?_; rintro e w1 ⟨rfl, l1, q1, rfl, h1⟩; have HB1 := Lib.hid h1; clear h1))
            go_wp2_with (first | (go_at_call_of 170 (Value.string ⟨lu.toArray⟩); refine (write_list hm1 (by simp) lu hz2 HB1.out).mono ?_; rintro e w1 ⟨rfl, l2, q2, rfl, h1⟩; have HB2 := Lib.hid h1; clear h1))
            go_quiet (first | (go_at_call 169; exact len_more hm2 HB2.out))
            go_wp2_with (first | (go_at_call 27; refine (value_Err _ _).mono ?_; rintro e w1 ⟨rfl, hb⟩; obtain ⟨l3, m3, rfl⟩ := more_of_below hb; clear hb))
            all_goals go_returns
            all_goals exact ⟨rfl, (by (with_reducible repeat' (first | exact .refl _ _ | assumption | refine bmP ?_ ?_ | refine baP ?_ _ ?_ | refine .drew ?_ | refine .setCell ?_ ?_ _ | refine bdP ?_ _)) <;> go_size)⟩
          · rw [if_neg hlong2] at hR
            have hlongI2 : ¬ (text : Int) < ((m + k + g : Nat) : Int) := by omega
            have HNX := Lib.hid hR
            clear hR
            go_wp2_with (first | (go_at_call 168; refine (HCT.out _ HMR.out (by omega)).mono ?_; rintro e w1 ⟨rfl, n1, rfl⟩))
            go_quiet (first | (go_at_call 169; exact len_more hm HBU.out))
            go_wp2_with (first | (go_at_call_of 170 (Value.string ⟨bf.toArray⟩); refine (write_list hm (by simp) bf hz1 HBU.out).mono ?_; rintro e w1 ⟨rfl, l1, q1, rfl, h1⟩; have HB1 := Lib.hid h1; clear h1))
            go_wp2_with (first | (go_at_call_of 170 (Value.string ⟨lu.toArray⟩); refine (write_list hm1 (by simp) lu hz2 HB1.out).mono ?_; rintro e w1 ⟨rfl, l2, q2, rfl, h1⟩; have HB2 := Lib.hid h1; clear h1))
            go_quiet (first | (go_at_call 169; exact len_more hm2 HB2.out))
            go_wp2_with fail
            go_roundw
            case rel => exact ⟨f, af, acc ++ bf ++ lu, rfl, by omega, by omega, by omega, HNX.out, (by (with_reducible repeat' (first | exact .refl _ _ | assumption | refine bmP ?_ ?_ | refine baP ?_ _ ?_ | refine .drew ?_ | refine .setCell ?_ ?_ _ | refine bdP ?_ _)) <;> go_size), HB2.out⟩
            case measure => exact hrl
end Go.Proofs.YtegbhdeaicgpkaaGreatDoor
