/-
  The program's Table.Names and the document's: what each answers; the walk of the law FuncsNames.
-/
import Derived.Test.YtpcihefhagipmaaGreatDoorKnownL
import Derived.Test.YtpcihefhagipmaaGreatDoorNamesL
import Derived.Test.YtpcihefhagipmaaGreatDoorIter
namespace Go.Proofs.YtpcihefhagipmaaGreatDoor
open Go Go.RowKit

theorem Turn.under {b B : Nat} {w w' : World} (h : Turn b w w') (hb : B ≤ b) (hB : B ≤ w.heap.size) : Below B w w' := ⟨h.1, h.2.1, h.2.2.1, h.2.2.2.1, fun k hk => h.2.2.2.2 k (by omega) (by omega)⟩
def rowN : List Value := names66.map Value.string
theorem rowN_len : rowN.length = 66 := by decide +kernel
def nm66 (k : Nat) : ByteArray := names66.getD k ⟨#[]⟩
theorem rowN_at (k : Nat) (h : k < 66) : rowN[k]? = some (.string (nm66 k)) := by
  have hl : k < names66.length := h
  unfold rowN nm66
  rw [List.getElem?_map, List.getElem?_eq_getElem hl, List.getD, List.getElem?_eq_getElem hl]
  rfl

set_option maxRecDepth 100000 in
set_option maxHeartbeats 1000000 in
theorem table_Names (b : Nat) (w : World) (h : TabOK w b) : Calls Tryz.prog 17 #[.pointer (some ⟨b, 0, none⟩)] w fun e w' => ∃ w1 g c, e = .returned (.slice (some ⟨g, 0, none⟩) 66 c) ∧ Ready w1 b ∧ Turn b w w1 ∧ Below w1.heap.size w1 w' ∧
    w'.ownsRow w1.heap.size 9 1 (.slice (some ⟨g, 0, none⟩) 66 c) 66 rowN := by
  go_enter Tryz.func17, Tryz.ntmps17
  go_wp2_with (first | (go_at_call 20; refine (table_all b _ h).mono ?_; rintro e w1 ⟨⟨m, rfl, hM⟩, hR, hT⟩; obtain ⟨n, D, hO, hp, hs⟩ := hM.owns) | (go_at_call 31; refine (callsIn_wide.1 (Tryz.maps_Keys_31 _ _)).mono ?_; rintro e w2 ⟨rfl, rfl⟩) | (go_at_call 30; refine (callsIn_wide.1 (Tryz.slices_Sorted_keys_30_31 m n D rdv w1 hO (by simp only [maxLen]; omega) (by omega))).mono ?_; rintro e w3 ⟨v, ss, rfl, hS, hrow, hnil, hb⟩))
  have hss := hS.trans hp
  have hl : ss.length = 66 := by
    have := hss.length_eq
    rw [List.length_map] at this
    exact this
  rw [hl, sorted_of_perm hss] at hrow
  obtain ⟨g, c, rfl, hg, hgl, hcells⟩ := own_form hrow (by decide)
  clear hnil hcells hgl
  go_ret
  exact ⟨_, g, c, rfl, hR.below (by repeat (first | with_reducible exact Below.refl _ _ | with_reducible assumption | with_reducible refine below_more' ?_ (by go_size) | with_reducible refine bel_alloc ?_ _ (by go_size) | with_reducible refine Below.drew ?_ | with_reducible refine Below.setCell ?_ (by go_size) _ | with_reducible refine below_drewN ?_ _)), hT.trans (.of_below (by repeat (first | with_reducible exact Below.refl _ _ | with_reducible assumption | with_reducible refine below_more' ?_ (by go_size) | with_reducible refine bel_alloc ?_ _ (by go_size) | with_reducible refine Below.drew ?_ | with_reducible refine Below.setCell ?_ (by go_size) _ | with_reducible refine below_drewN ?_ _))), hb, hrow⟩

set_option maxRecDepth 100000 in
set_option maxHeartbeats 8000000 in
theorem ref11_Names (w : World) : Calls Tryz.prog 18 #[] w fun e w' => e = .returned (.slice (some ⟨w.heap.size, 0, none⟩) 66 66) ∧ w' = w.alloc (.cells rowArr 9) := by
  go_enter Tryz.func18, Tryz.ntmps18
  go_wp2
  go_ret
  exact ⟨rfl, rfl⟩

/-- What the rounds of FuncsNames keep. -/
def NamesRel (w1 : World) (g gw : Nat) (wr : World) (k : Nat) : Prop := Below w1.heap.size w1 wr ∧ (∀ j, k ≤ j → j < 66 → wr.cell? ⟨g, j, none⟩ = some (.string (nm66 j))) ∧ (∀ j, j < 66 → wr.frozen? ⟨g, j, none⟩ = false) ∧ ∀ j, j < 66 → wr.cell? ⟨gw, j, none⟩ = some (.string (nm66 j))
theorem NamesRel.step {w1 wr : World} {g gw k : Nat} {v : Value} (h : NamesRel w1 g gw wr k) (hg : w1.heap.size ≤ g) (hgw : g ≠ gw) : NamesRel w1 g gw (wr.setCell ⟨g, k, none⟩ v) (k + 1) := by
  obtain ⟨h1, h2, h3, h4⟩ := h
  refine ⟨h1.setCell hg _, fun j hj hj' => ?_, fun j hj => ?_, fun j hj => ?_⟩
  · exact (World.cell?_setCell_other _ _ _ _ (by first | (simp; done) | (simp; omega))).trans (h2 j (by omega) hj')
  · rw [World.frozen?_setCell]; exact h3 j hj
  · exact (World.cell?_setCell_other _ _ _ _ (by first | (simp; done) | (simp; omega))).trans (h4 j hj)
theorem NamesRel.drewN {w1 wr : World} {g gw k : Nat} (h : NamesRel w1 g gw wr k) (n : Nat) : NamesRel w1 g gw (wr.drewN n) k := ⟨below_drewN h.1 n, h.2.1, h.2.2.1, h.2.2.2⟩
theorem row_cells {w : World} {base g c : Nat} (h : w.ownsRow base 9 1 (.slice (some ⟨g, 0, none⟩) 66 c) 66 rowN) : base ≤ g ∧ g < w.heap.size ∧ (∀ j, j < 66 → w.cell? ⟨g, j, none⟩ = some (.string (nm66 j))) ∧ ∀ j, w.frozen? ⟨g, j, none⟩ = false := by
  rcases h.2 with ⟨_, h2⟩ | ⟨g', cap, cur, e1, hg, hh, h1, h2, h3, h4⟩
  · cases h2
  · injection e1 with e1
    injection e1 with e1
    injection e1 with e1
    subst e1
    refine ⟨hg, (Array.getElem?_eq_some_iff.1 hh).1, fun j hj => ?_, fun j => free_blk hh⟩
    have := h.cells (g := g) rfl j _ (rowN_at j hj)
    rw [← this]
    congr 1
    unfold Addr.add
    split <;> simp_all
theorem names_start {w1 w3 : World} {g c : Nat} (hb : Below w1.heap.size w1 w3) (h : w3.ownsRow w1.heap.size 9 1 (.slice (some ⟨g, 0, none⟩) 66 c) 66 rowN) : NamesRel w1 g w3.heap.size (w3.alloc (.cells rowArr 9)) 0 := by
  rw [show rowArr = rowN.toArray from rowArr_eq]
  obtain ⟨h1, h2, h3, h4⟩ := row_cells h
  refine ⟨hb.alloc hb.size _, fun j _ hj => ?_, fun j hj => ?_, fun j hj => ?_⟩
  · rw [World.cell?_alloc_past _ _ _ h2]; exact h3 j hj
  · rw [World.frozen?_alloc_old _ _ _ (by first | (simp; done) | (simp; omega))]; exact h4 j
  · rw [cell_of_row (w3.alloc (.cells rowN.toArray 9)) w3.heap.size j rowN.toArray 9 (0, 0) (heap_alloc_new w3 _)]
    simpa using rowN_at j hj
theorem contains_take (s : ByteArray) (k : Nat) (hk : k < 66) : hasName (names66.take (k + 1)) s = (hasName (names66.take k) s || (nm66 k).toList == s.toList) := by
  have hl : k < names66.length := hk
  have h1 : names66[k]? = some (nm66 k) := by unfold nm66; rw [List.getD, List.getElem?_eq_getElem hl]; rfl
  unfold hasName
  rw [take_one h1, List.any_append]
  congr 1
  have e : ((nm66 k).toList == s.toList) = decide (nm66 k = s) := by
    rw [ByteArray.toList_eq, ByteArray.toList_eq]
    by_cases h : nm66 k = s
    · subst h; simp
    · have h1 : ((nm66 k).data.toList == s.data.toList) = false := beq_eq_false_iff_ne.2 fun e => h (bytes_inj e)
      rw [h1]
      simp [h]
  rw [e]
  simp

set_option maxRecDepth 100000 in
set_option maxHeartbeats 8000000 in
theorem funcsNames (s : ByteArray) (i : Int) (w : World) : Calls Tryz.prog 5 #[.string s, .int .i64 i] w fun e w' => e = .returned (.bool true) ∧ Below w.heap.size w w' := by
  by_cases hi : i.tmod 2 = 0
  · replace hi : (i.tmod 2 == 0) = true := by simp [hi]
    go_enter Tryz.func5, Tryz.ntmps5
    go_wp2_with (first | (go_at_call 6; refine (table_New _).mono ?_; rintro e w1 ⟨rfl, hF, hb⟩; have hTO : TabOK w1 w.heap.size := .inr hF; have hBW : Below w.heap.size w w1 := hb; clear hF hb) | (go_at_call 15; refine (table_Known w.heap.size s _ hTO).mono ?_; rintro e w2 ⟨rfl, hR2, hT2⟩; replace hBW : Below w.heap.size w w2 := hBW.trans (hT2.under (Nat.le_refl _) hBW.size); replace hTO : TabOK w2 w.heap.size := .inl hR2; clear hR2 hT2) | (go_at_call 17; refine (table_Names w.heap.size _ hTO).mono ?_; rintro e w3 ⟨wt, g, c, rfl, hRX, hTX, hBX, hrow⟩; replace hBW : Below w.heap.size w wt := hBW.trans (hTX.under (Nat.le_refl _) hBW.size); clear hTO hTX) | (go_at_call 18; refine (ref11_Names _).mono ?_; rintro e w4 ⟨rfl, rfl⟩))
    obtain ⟨hg1, hg2, _, _⟩ := row_cells hrow
    have hst := names_start hBX hrow
    have hgb : w.heap.size < w3.heap.size := Nat.lt_of_le_of_lt (Nat.le_trans hBW.size hg1) hg2
    clear hrow
    go_loopw [9, 8] (fun t o wr => ∃ k : Nat, k ≤ 66 ∧ t = .int .i64 k ∧ o = .bool (hasName (names66.take k) s) ∧ NamesRel wt g w3.heap.size wr k) (fun t _ _ => 66 - (intOf t).toNat)
    case atStart => exact ⟨0, by omega, rfl, rfl, hst⟩
    case round =>
      obtain ⟨k, hk, rfl, rfl, hN⟩ := hrel
      by_cases hlt : k < 66
      · have ck := hN.2.1 k (Nat.le_refl _) hlt
        have fk := hN.2.2.1 k hlt
        have gk := hN.2.2.2 k hlt
        have HS := Lib.hid (fun n => (hN.drewN n).step (v := .string ⟨#[63]⟩) hg1 (by omega))
        have hcc := contains_take s k hlt
        obtain ⟨nk, hnk⟩ : ∃ nk, nk = nm66 k := ⟨_, rfl⟩
        rw [← hnk] at ck gk hcc
        have heq : (nk.toList != nk.toList) = false := by simp
        clear hN hst hnk
        cases hq : hasName (names66.take k) s
        · rw [hq] at hcc
          have HC := Lib.hid hcc
          clear hcc hq
          go_wp2
          go_quiet (fail)
          go_wp2
          go_roundw
          case rel => exact ⟨k + 1, by omega, by go_num, (by rw [HC.out]; simp), HS.out _⟩
          case measure => simp [intOf]; omega
        · rw [hq] at hcc
          have HC := Lib.hid hcc
          clear hcc hq
          go_wp2
          go_quiet (fail)
          go_wp2
          go_roundw
          case rel => exact ⟨k + 1, by omega, by go_num, (by rw [HC.out]; simp), HS.out _⟩
          case measure => simp [intOf]; omega
      · obtain rfl : k = 66 := by omega
        have hkn := Lib.hid (show hasName (names66.take 66) s = D1 50 s by rw [d1_contains]; rfl)
        have hBR : Ready wr w.heap.size := hRX.below hN.1
        have gw0 := hN.2.2.2 0 (by decide)
        have gw65 := hN.2.2.2 65 (by decide)
        have hBW' : Below w.heap.size w wr := hBW.trans (hN.1.mono hBW.size)
        rw [hkn.out]
        obtain ⟨kn, hk2⟩ : ∃ kn, kn = D1 50 s := ⟨_, rfl⟩
        rw [← hk2]
        have HK := Lib.hid hk2
        clear hst hN hk2
        go_wp2_with (first | (go_at_call 17; refine (table_Names w.heap.size _ (.inl hBR)).mono ?_; rintro e w5 ⟨wu, g2, c2, rfl, hRU, hTU, hBU, hrow2⟩))
        obtain ⟨hm1, hm2, hm3, _⟩ := row_cells hrow2
        have m0 := hm3 0 (by decide)
        have m65 := hm3 65 (by decide)
        have gv0 := (hBU.cell (p := ⟨w3.heap.size, 0, none⟩) (cell_lt (hTU.cell (Nat.ne_of_gt hgb) gw0))).trans (hTU.cell (Nat.ne_of_gt hgb) gw0)
        have gv65 := (hBU.cell (p := ⟨w3.heap.size, 65, none⟩) (cell_lt (hTU.cell (Nat.ne_of_gt hgb) gw65))).trans (hTU.cell (Nat.ne_of_gt hgb) gw65)
        have hgl := cell_lt gv0
        have hR5 : Ready w5 w.heap.size := hRU.below hBU
        have hBW5 : Below w.heap.size w w5 := (hBW'.trans (hTU.under (Nat.le_refl _) hBW'.size)).trans (hBU.mono (Nat.le_trans hBW'.size hTU.2.2.2.1))
        have hsz5 := hBW5.size
        obtain ⟨n0, hn0⟩ : ∃ n0, n0 = nm66 0 := ⟨_, rfl⟩
        obtain ⟨n65, hn65⟩ : ∃ n65, n65 = nm66 65 := ⟨_, rfl⟩
        rw [← hn0] at m0 gv0
        rw [← hn65] at m65 gv65
        clear hrow2 hm3 hBR gw0 gw65 hBW' hRX hBX hTU hBU hRU hBW hn0 hn65
        have hw65 : IntKind.i64.wrap 65 = 65 := by decide
        go_region_held3 (fun w' => w'.cell? ⟨g2, 0, none⟩ = some (.string n0) ∧ w'.cell? ⟨g2, 65, none⟩ = some (.string n65) ∧ w'.cell? ⟨w3.heap.size, 0, none⟩ = some (.string n0) ∧ w'.cell? ⟨w3.heap.size, 65, none⟩ = some (.string n65))
          (first | (go_keep; done) | ((try dsimp only); refine ⟨?_, ?_, ?_, ?_⟩ <;> (rw [more_cell (by assumption)]; assumption)))
          (first | (go_at_call 15; refine (table_KnownR w.heap.size s _ ?_).mono ?_; (exact hR5.below (by repeat (first | with_reducible exact Below.refl _ _ | with_reducible assumption | with_reducible refine below_more' ?_ (by go_size) | with_reducible refine bel_alloc ?_ _ (by go_size) | with_reducible refine Below.drew ?_ | with_reducible refine Below.setCell ?_ (by go_size) _ | with_reducible refine below_drewN ?_ _))); rintro e w6 ⟨he, hb⟩; rw [← HK.out] at he; subst he; obtain ⟨l, u, rfl⟩ := more_of_below hb; clear hb) | (go_at_call 7; refine (law_known w.heap.size _ ?_).mono ?_; (exact hR5.below (by repeat (first | with_reducible exact Below.refl _ _ | with_reducible assumption | with_reducible refine below_more' ?_ (by go_size) | with_reducible refine bel_alloc ?_ _ (by go_size) | with_reducible refine Below.drew ?_ | with_reducible refine Below.setCell ?_ (by go_size) _ | with_reducible refine below_drewN ?_ _))); rintro e w6 ⟨rfl, hb⟩; obtain ⟨l, u, rfl⟩ := more_of_below hb; clear hb))
        all_goals go_wp2
        all_goals go_ret
        all_goals exact ⟨rfl, (by repeat (first | with_reducible exact Below.refl _ _ | with_reducible assumption | with_reducible refine below_more' ?_ (by go_size) | with_reducible refine bel_alloc ?_ _ (by go_size) | with_reducible refine Below.drew ?_ | with_reducible refine Below.setCell ?_ (by go_size) _ | with_reducible refine below_drewN ?_ _))⟩
  · replace hi : (i.tmod 2 == 0) = false := by simp [hi]
    go_enter Tryz.func5, Tryz.ntmps5
    go_wp2_with (first | (go_at_call 6; refine (table_New _).mono ?_; rintro e w1 ⟨rfl, hF, hb⟩; have hTO : TabOK w1 w.heap.size := .inr hF; have hBW : Below w.heap.size w w1 := hb; clear hF hb) | (go_at_call 15; refine (table_Known w.heap.size s _ hTO).mono ?_; rintro e w2 ⟨rfl, hR2, hT2⟩; replace hBW : Below w.heap.size w w2 := hBW.trans (hT2.under (Nat.le_refl _) hBW.size); replace hTO : TabOK w2 w.heap.size := .inl hR2; clear hR2 hT2) | (go_at_call 17; refine (table_Names w.heap.size _ hTO).mono ?_; rintro e w3 ⟨wt, g, c, rfl, hRX, hTX, hBX, hrow⟩; replace hBW : Below w.heap.size w wt := hBW.trans (hTX.under (Nat.le_refl _) hBW.size); clear hTO hTX) | (go_at_call 18; refine (ref11_Names _).mono ?_; rintro e w4 ⟨rfl, rfl⟩))
    obtain ⟨hg1, hg2, _, _⟩ := row_cells hrow
    have hst := names_start hBX hrow
    have hgb : w.heap.size < w3.heap.size := Nat.lt_of_le_of_lt (Nat.le_trans hBW.size hg1) hg2
    clear hrow
    go_loopw [9, 8] (fun t o wr => ∃ k : Nat, k ≤ 66 ∧ t = .int .i64 k ∧ o = .bool (hasName (names66.take k) s) ∧ NamesRel wt g w3.heap.size wr k) (fun t _ _ => 66 - (intOf t).toNat)
    case atStart => exact ⟨0, by omega, rfl, rfl, hst⟩
    case round =>
      obtain ⟨k, hk, rfl, rfl, hN⟩ := hrel
      by_cases hlt : k < 66
      · have ck := hN.2.1 k (Nat.le_refl _) hlt
        have fk := hN.2.2.1 k hlt
        have gk := hN.2.2.2 k hlt
        have HS := Lib.hid (fun n => (hN.drewN n).step (v := .string ⟨#[63]⟩) hg1 (by omega))
        have hcc := contains_take s k hlt
        obtain ⟨nk, hnk⟩ : ∃ nk, nk = nm66 k := ⟨_, rfl⟩
        rw [← hnk] at ck gk hcc
        have heq : (nk.toList != nk.toList) = false := by simp
        clear hN hst hnk
        cases hq : hasName (names66.take k) s
        · rw [hq] at hcc
          have HC := Lib.hid hcc
          clear hcc hq
          go_wp2
          go_quiet (fail)
          go_wp2
          go_roundw
          case rel => exact ⟨k + 1, by omega, by go_num, (by rw [HC.out]; simp), HS.out _⟩
          case measure => simp [intOf]; omega
        · rw [hq] at hcc
          have HC := Lib.hid hcc
          clear hcc hq
          go_wp2
          go_quiet (fail)
          go_wp2
          go_roundw
          case rel => exact ⟨k + 1, by omega, by go_num, (by rw [HC.out]; simp), HS.out _⟩
          case measure => simp [intOf]; omega
      · obtain rfl : k = 66 := by omega
        have hkn := Lib.hid (show hasName (names66.take 66) s = D1 50 s by rw [d1_contains]; rfl)
        have hBR : Ready wr w.heap.size := hRX.below hN.1
        have gw0 := hN.2.2.2 0 (by decide)
        have gw65 := hN.2.2.2 65 (by decide)
        have hBW' : Below w.heap.size w wr := hBW.trans (hN.1.mono hBW.size)
        rw [hkn.out]
        obtain ⟨kn, hk2⟩ : ∃ kn, kn = D1 50 s := ⟨_, rfl⟩
        rw [← hk2]
        have HK := Lib.hid hk2
        clear hst hN hk2
        go_wp2_with (first | (go_at_call 17; refine (table_Names w.heap.size _ (.inl hBR)).mono ?_; rintro e w5 ⟨wu, g2, c2, rfl, hRU, hTU, hBU, hrow2⟩))
        obtain ⟨hm1, hm2, hm3, _⟩ := row_cells hrow2
        have m0 := hm3 0 (by decide)
        have m65 := hm3 65 (by decide)
        have gv0 := (hBU.cell (p := ⟨w3.heap.size, 0, none⟩) (cell_lt (hTU.cell (Nat.ne_of_gt hgb) gw0))).trans (hTU.cell (Nat.ne_of_gt hgb) gw0)
        have gv65 := (hBU.cell (p := ⟨w3.heap.size, 65, none⟩) (cell_lt (hTU.cell (Nat.ne_of_gt hgb) gw65))).trans (hTU.cell (Nat.ne_of_gt hgb) gw65)
        have hgl := cell_lt gv0
        have hR5 : Ready w5 w.heap.size := hRU.below hBU
        have hBW5 : Below w.heap.size w w5 := (hBW'.trans (hTU.under (Nat.le_refl _) hBW'.size)).trans (hBU.mono (Nat.le_trans hBW'.size hTU.2.2.2.1))
        have hsz5 := hBW5.size
        obtain ⟨n0, hn0⟩ : ∃ n0, n0 = nm66 0 := ⟨_, rfl⟩
        obtain ⟨n65, hn65⟩ : ∃ n65, n65 = nm66 65 := ⟨_, rfl⟩
        rw [← hn0] at m0 gv0
        rw [← hn65] at m65 gv65
        clear hrow2 hm3 hBR gw0 gw65 hBW' hRX hBX hTU hBU hRU hBW hn0 hn65
        have hw65 : IntKind.i64.wrap 65 = 65 := by decide
        go_region_held3 (fun w' => w'.cell? ⟨g2, 0, none⟩ = some (.string n0) ∧ w'.cell? ⟨g2, 65, none⟩ = some (.string n65) ∧ w'.cell? ⟨w3.heap.size, 0, none⟩ = some (.string n0) ∧ w'.cell? ⟨w3.heap.size, 65, none⟩ = some (.string n65))
          (first | (go_keep; done) | ((try dsimp only); refine ⟨?_, ?_, ?_, ?_⟩ <;> (rw [more_cell (by assumption)]; assumption)))
          (first | (go_at_call 15; refine (table_KnownR w.heap.size s _ ?_).mono ?_; (exact hR5.below (by repeat (first | with_reducible exact Below.refl _ _ | with_reducible assumption | with_reducible refine below_more' ?_ (by go_size) | with_reducible refine bel_alloc ?_ _ (by go_size) | with_reducible refine Below.drew ?_ | with_reducible refine Below.setCell ?_ (by go_size) _ | with_reducible refine below_drewN ?_ _))); rintro e w6 ⟨he, hb⟩; rw [← HK.out] at he; subst he; obtain ⟨l, u, rfl⟩ := more_of_below hb; clear hb) | (go_at_call 7; refine (law_known w.heap.size _ ?_).mono ?_; (exact hR5.below (by repeat (first | with_reducible exact Below.refl _ _ | with_reducible assumption | with_reducible refine below_more' ?_ (by go_size) | with_reducible refine bel_alloc ?_ _ (by go_size) | with_reducible refine Below.drew ?_ | with_reducible refine Below.setCell ?_ (by go_size) _ | with_reducible refine below_drewN ?_ _))); rintro e w6 ⟨rfl, hb⟩; obtain ⟨l, u, rfl⟩ := more_of_below hb; clear hb))
        all_goals go_wp2
        all_goals go_ret
        all_goals exact ⟨rfl, (by repeat (first | with_reducible exact Below.refl _ _ | with_reducible assumption | with_reducible refine below_more' ?_ (by go_size) | with_reducible refine bel_alloc ?_ _ (by go_size) | with_reducible refine Below.drew ?_ | with_reducible refine Below.setCell ?_ (by go_size) _ | with_reducible refine below_drewN ?_ _))⟩
end Go.Proofs.YtpcihefhagipmaaGreatDoor
