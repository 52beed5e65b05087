/-
  Eval.Work at a formula of cells, values and operations of two, over the law's table: what it answers.
-/
import Derived.Test.YtegbhdeaicgpkaaGreatDoorWorkA
namespace Go.Proofs.YtegbhdeaicgpkaaGreatDoor
open Go Go.RowKit

set_option maxRecDepth 100000 in
set_option maxHeartbeats 4000000 in
theorem eval_WorkK (pe : Nat) (tp : Addr) (text : Int) (G : Int → V → V → V) (xs : List Nd) (bn off n c B0 : Nat) (B pt pc : Nat) (ents : List Ent) (asked : Value) (na : Nat) (L : List Value) (w : World)
    (hr : Reads w B0 15 (some ⟨bn, off, none⟩) n (flatC Nd.cells xs)) (h1 : 1 ≤ n) (h2 : n ≤ 1024) (hw : Wf xs) (d b : Int) (hs : stkP xs = [(d, b)]) (hd : d ≤ 32) (r : V) (hv : stkV ents G xs = [r])
    (hE : AtB w pe (evCells tp text)) (hsrc : Src w B pt pc ents asked na L) (hn : ents.length ≤ 1000000) (ha : na ≤ 900000) (hbn : bn ≠ pt) (hbn2 : asked.ownBlock ≠ some bn) (hpe : pe ≠ pt) (hpe2 : asked.ownBlock ≠ some pe)
    (hsh : ∀ (j : Nat) (x : Nd), xs[j]? = some x → x.kind = 1 → (x.v.str.size : Int) ≤ text)
    (hG : ∀ (j : Nat) (k : Int) (pre : List V) (a b : V), xs[j]? = some (Nd.opn k) → stkV ents G (xs.take j) = pre ++ [a, b] → ∀ w', AtB w' pe (evCells tp text) → Kept2 pt asked.ownBlock w w' → Calls Tryz.prog 45 #[.pointer (some ⟨pe, 0, none⟩), .int .i64 k, (Value.agg #[Value.int .i64 (a).tag, Value.int .i64 (a).num, Value.string (a).str, Value.bool (a).is, Value.int .i64 (a).code]), (Value.agg #[Value.int .i64 (b).tag, Value.int .i64 (b).num, Value.string (b).str, Value.bool (b).is, Value.int .i64 (b).code])] w' fun e w'' => e = .returned (Value.agg #[Value.int .i64 (G k a b).tag, Value.int .i64 (G k a b).num, Value.string (G k a b).str, Value.bool (G k a b).is, Value.int .i64 (G k a b).code]) ∧ Below w'.heap.size w' w'') :
    Calls Tryz.prog 22 #[.pointer (some ⟨pe, 0, none⟩), .agg #[.slice (some ⟨bn, off, none⟩) n c], .iface 56 (.pointer (some ⟨pt, 0, none⟩))] w fun e w' => e = .returned (Value.agg #[Value.int .i64 (r).tag, Value.int .i64 (r).num, Value.string (r).str, Value.bool (r).is, Value.int .i64 (r).code]) ∧ ∃ asked' na' L', Src w' B pt pc ents asked' na' L' ∧ na' ≤ na + n ∧ Kept2 pt asked.ownBlock w w' ∧ (asked'.ownBlock = asked.ownBlock ∨ ∀ k, asked'.ownBlock = some k → w.heap.size ≤ k) := by
  have HR := Lib.hid hr
  have HW := Lib.hid hw
  have HS := Lib.hid hs
  have HV := Lib.hid hv
  have HE := Lib.hid hE
  have HSR := Lib.hid hsrc
  have HG := Lib.hid hG
  have HSH := Lib.hid hsh
  obtain ⟨i0, hi, hz0, hz1, hz2⟩ := info_parts info_G
  clear hr hw hs hv hE hsrc hG hsh
  go_enter Tryz.func22, Tryz.ntmps22
  have hba : ∀ k, asked.ownBlock = some k → k < w.heap.size := fun k hk => (HSR.out.own.lt k hk).2
  have HNE := Lib.hid (show asked.ownBlock ≠ some w.heap.size from fun e => by have := hba _ e; omega)
  have HNE2 := Lib.hid (show asked.ownBlock ≠ some (w.heap.size + 1) from fun e => by have := hba _ e; omega)
  have hptl : pt < w.heap.size := by have := HSR.out.lt; have := HSR.out.le; omega
  clear hba
  go_wp2_with (first | (go_at_call 42; refine (refs_Check xs _ n c B0 _ (HR.out.keeps (by repeat (first | with_reducible exact keeps_refl _ | with_reducible assumption | with_reducible refine keeps_alloc ?_ _ | with_reducible refine keeps_more ?_ _ _ | with_reducible refine keeps_drew ?_ | with_reducible refine keeps_drewN ?_ _))) h1 h2 HW.out d b HS.out hd).mono ?_; rintro e w1 ⟨rfl, hb⟩; have hs1 := hb.size; have hs1' : w.heap.size + 1 + 1 ≤ w1.heap.size := (by simpa using hs1); have hbx : w1.cell? ⟨w.heap.size, 0, none⟩ = some (.slice (some ⟨bn, off, none⟩) n c) := cell_below (cell_allocJ ((AtB.new rfl) 0 _ rfl) _) hb; have HB1 := Lib.hid (show Below w.heap.size w w1 from Below.trans (show Below w.heap.size w _ from (by repeat (first | with_reducible exact Below.refl _ _ | with_reducible assumption | with_reducible refine below_more' ?_ (by go_size) | with_reducible refine bel_alloc ?_ _ (by go_size) | with_reducible refine Below.drew ?_ | with_reducible refine Below.setCell ?_ (by go_size) _ | with_reducible refine below_drewN ?_ _))) (hb.mono (by simp; omega))); have HZ : w1.heap[w.heap.size + 1]? = some (.cells #[.int .i64 0, .int .i64 0, .string ⟨#[]⟩, .bool false, .int .i64 0] 29 (0, 0)) := (hb.block _ (by simp)).trans (by have h := heap_alloc_new (w.alloc (.cells #[.slice (some ⟨bn, off, none⟩) n c] 65)) (.cells #[.int .i64 0, .int .i64 0, .string ⟨#[]⟩, .bool false, .int .i64 0] 29); simpa using h); clear hb hs1))
  have HC : ∀ j u, (flatC Nd.cells xs)[j]? = some u → w1.cell? ⟨bn, off + j, none⟩ = some u := fun j u hu => by
    obtain ⟨b', o', e1, _, hc⟩ := HR.out.2 (by omega)
    cases e1
    exact cell_below (hc j u hu) HB1.out
  have hlen : xs.length = n := by
    have := HR.out.1
    rw [flatC_length Nd.cells 15 Nd.cells_length] at this
    omega
  have HB0 := Lib.hid (show B ≤ w1.heap.size from by have := HB1.out.size; have := HSR.out.le; omega)
  have HC := Lib.hid HC
  have HZ := Lib.hid HZ
  go_loopw [24, 7] (fun t24 t7 wr => ∃ j : Nat, j ≤ n ∧ t24 = .int .i64 j ∧ ∃ asked' na' L', WRel w1 wr B pt pc ents asked na t7 (stkV ents G (xs.take j)) j asked' na' L') (fun t _ _ => n - (intOf t).toNat)
  case atStart => exact ⟨0, Nat.zero_le _, rfl, asked, na, L, ⟨HSR.out.below HB1.out, Nat.le_refl _, Kept2.of_below (Below.refl _ _), .inl rfl, World.ownsRow_nil _ _ _ _, fun k hk e => by cases e⟩⟩
  case round =>
    obtain ⟨j, hj, rfl, ask1, na1, L1, hR⟩ := hrel
    by_cases hlt : j < n
    · obtain ⟨x, hx⟩ : ∃ x, xs[j]? = some x := ⟨_, List.getElem?_eq_getElem (show j < xs.length by omega)⟩
      have hcell : ∀ i u, x.cells[i]? = some u → wr.cell? ⟨bn, off + (j * 15 + i), none⟩ = some u := fun i u hu => hR.cell hbn hbn2 (HC.out _ u (flatC_at Nd.cells 15 Nd.cells_length xs j x hx i u hu))
      have c0 := hcell 0 _ rfl
      have c1 := hcell 1 _ rfl
      have c2 := hcell 2 _ rfl
      have c3 := hcell 3 _ rfl
      have c4 := hcell 4 _ rfl
      have c5 := hcell 5 _ rfl
      have c6 := hcell 6 _ rfl
      have c7 := hcell 7 _ rfl
      have c8 := hcell 8 _ rfl
      have c9 := hcell 9 _ rfl
      have c10 := hcell 10 _ rfl
      have c11 := hcell 11 _ rfl
      have c12 := hcell 12 _ rfl
      have c13 := hcell 13 _ rfl
      have c14 := hcell 14 _ rfl
      simp only [← Nat.add_assoc, Nat.add_zero] at c0 c1 c2 c3 c4 c5 c6 c7 c8 c9 c10 c11 c12 c13 c14
      have hst := stkV_take ents G xs j x hx
      obtain ⟨hok, hop, -⟩ := HW.out j x hx
      have hlv := stkV_len ents G xs j
      have hlp := stkP_le xs j
      obtain ⟨vs, hvs⟩ : ∃ vs, vs = stkV ents G (xs.take j) := ⟨_, rfl⟩
      rw [← hvs] at hR hst hlv
      rw [← hlv] at hop hlp
      have HVS := Lib.hid hvs
      have HX := Lib.hid hx
      have HKK := Lib.hid ((Kept2.of_below (pt := pt) (row := asked.ownBlock) HB1.out).trans hR.kept (.inl rfl))
      have HR' := Lib.hid hR
      have HE1 := Lib.hid (show AtB wr pe (evCells tp text) from fun i u hu => hR.cell hpe hpe2 (HE.out.below HB1.out i u hu))
      have hsw := hR.kept.2.2.2.1
      clear hvs hx hR hcell hlv
      rcases hok with ⟨r0, q, rfl, hr1, hr2, hq1, hq2⟩ | ⟨v, rfl, hm, ht, hnn, hcc⟩ | ⟨k, rfl, hk1, hk2⟩
      · have hst : stkV ents G (xs.take (j + 1)) = vs ++ [findE ents r0 q] := hst
        have hst := Lib.hid hst
        simp only [Nd.cell, V0] at c0 c1 c2 c3 c4 c5 c6 c7 c12
        clear hop hr1 hr2 hq1 hq2
        go_wp2_with (first | (go_at_call 355; refine (table_Cell r0 q _ B pt pc ents ask1 na1 L1 (HR'.out.src.below (by repeat (first | with_reducible exact Below.refl _ _ | with_reducible assumption | with_reducible refine below_more' ?_ (by go_size) | with_reducible refine bel_alloc ?_ _ (by go_size) | with_reducible refine Below.drew ?_ | with_reducible refine Below.setCell ?_ (by go_size) _ | with_reducible refine below_drewN ?_ _))) hn (by have := HR'.out.le; omega)).mono ?_; rintro e w2 ⟨rfl, ask2, L2, hs2, hk2, hw2⟩; replace HR' := Lib.hid (WRel.turn HR'.out HB0.out (by repeat (first | with_reducible exact Below.refl _ _ | with_reducible assumption | with_reducible refine below_more' ?_ (by go_size) | with_reducible refine bel_alloc ?_ _ (by go_size) | with_reducible refine Below.drew ?_ | with_reducible refine Below.setCell ?_ (by go_size) _ | with_reducible refine below_drewN ?_ _)) hs2 hk2 hw2); have hsw2 := HR'.out.kept.2.2.2.1; clear hs2 hk2 hw2) | (at_builtin; refine wpList_append_lies _ rfl _ _ 22 rfl w1.heap.size 42 i0 _ 11 112 Tryz.underlying22 hi hz0 hz1 hz2 (by rfl) (by decide) _ _ _ (by rfl) (stk_below HR'.out.own (by repeat (first | with_reducible exact Below.refl _ _ | with_reducible assumption | with_reducible refine below_more' ?_ (by go_size) | with_reducible refine bel_alloc ?_ _ (by go_size) | with_reducible refine Below.drew ?_ | with_reducible refine Below.setCell ?_ (by go_size) _ | with_reducible refine below_drewN ?_ _))) _ 1 1 (gCells (findE ents r0 q)) (by rfl) (by rfl) (by exact fun i u hu => stk_fresh (by simp) i u hu) (gCells_one (findE ents r0 q)) (by decide) (by simp only [maxLen]; omega) (by omega) (by simp; omega) _ rfl ?_; intro g cap w3 hown hgrow hat hlt3; have R := WRel.push (l' := vs ++ [(findE ents r0 q)]) (j' := j + 1) HR'.out (by omega) HB0.out (by repeat (first | with_reducible exact Below.refl _ _ | with_reducible assumption | with_reducible refine below_more' ?_ (by go_size) | with_reducible refine bel_alloc ?_ _ (by go_size) | with_reducible refine Below.drew ?_ | with_reducible refine Below.setCell ?_ (by go_size) _ | with_reducible refine below_drewN ?_ _)) hgrow (by rw [flatC_append, List.length_append]; simpa [flatC] using hown) hat; have HR3 := Lib.hid R; clear R hown hgrow hat))
        all_goals exact ⟨⟨j + 1, by omega, by go_num, _, _, _, by rw [hst.out]; exact HR3.out⟩, by simp [intOf]; omega⟩
      · have hst : stkV ents G (xs.take (j + 1)) = vs ++ [v] := hst
        have hst := Lib.hid hst
        simp only [Nd.value] at c0 c1 c2 c3 c4 c5 c6 c7 c12
        have hshv := Lib.hid (HSH.out j _ HX.out rfl)
        clear hop hm ht hnn hcc
        go_wp2_with (first | (go_at_call 43; refine (eval_short pe tp text v hshv.out _ (HE1.out.below (by repeat (first | with_reducible exact Below.refl _ _ | with_reducible assumption | with_reducible refine below_more' ?_ (by go_size) | with_reducible refine bel_alloc ?_ _ (by go_size) | with_reducible refine Below.drew ?_ | with_reducible refine Below.setCell ?_ (by go_size) _ | with_reducible refine below_drewN ?_ _)))).mono ?_; rintro e w2 ⟨rfl, hb⟩; obtain ⟨l, m, rfl⟩ := more_of_below hb; clear hb) | (at_builtin; refine wpList_append_lies _ rfl _ _ 22 rfl w1.heap.size 42 i0 _ 11 112 Tryz.underlying22 hi hz0 hz1 hz2 (by rfl) (by decide) _ _ _ (by rfl) (stk_below HR'.out.own (by repeat (first | with_reducible exact Below.refl _ _ | with_reducible assumption | with_reducible refine below_more' ?_ (by go_size) | with_reducible refine bel_alloc ?_ _ (by go_size) | with_reducible refine Below.drew ?_ | with_reducible refine Below.setCell ?_ (by go_size) _ | with_reducible refine below_drewN ?_ _))) _ 1 1 (gCells v) (by rfl) (by rfl) (by exact fun i u hu => stk_fresh (by simp) i u hu) (gCells_one v) (by decide) (by simp only [maxLen]; omega) (by omega) (by simp; omega) _ rfl ?_; intro g cap w3 hown hgrow hat hlt3; have R := WRel.push (l' := vs ++ [v]) (j' := j + 1) HR'.out (by omega) HB0.out (by repeat (first | with_reducible exact Below.refl _ _ | with_reducible assumption | with_reducible refine below_more' ?_ (by go_size) | with_reducible refine bel_alloc ?_ _ (by go_size) | with_reducible refine Below.drew ?_ | with_reducible refine Below.setCell ?_ (by go_size) _ | with_reducible refine below_drewN ?_ _)) hgrow (by rw [flatC_append, List.length_append]; simpa [flatC] using hown) hat; have HR3 := Lib.hid R; clear R hown hgrow hat))
        all_goals exact ⟨⟨j + 1, by omega, by go_num, _, _, _, by rw [hst.out]; exact HR3.out⟩, by simp [intOf]; omega⟩
      · obtain ⟨pre, a, b', rfl⟩ := two_last vs (hop rfl)
        rw [vstep_op] at hst
        have hst := Lib.hid hst
        simp only [Nd.opn, V0] at c0 c1 c2 c3 c4 c5 c6 c7 c12
        obtain ⟨m, hm⟩ : ∃ m, m = pre.length := ⟨_, rfl⟩
        have hl2 : (pre ++ [a, b']).length = m + 2 := by rw [hm]; simp
        have hO := HR'.out.own
        rw [hl2] at hO hlp
        obtain ⟨g, cc, rfl, hcap, hcm, hbg, hgl, hcl, hfz⟩ := stk_form hO (by omega)
        have ha : (pre ++ [a, b'])[m]? = some a := by rw [hm]; simp
        have hb' : (pre ++ [a, b'])[m + 1]? = some b' := by rw [hm]; simp
        have a1 := hcl _ _ (flatC_at gCells 11 gCells_length _ m a ha 1 _ rfl)
        have b1 := hcl _ _ (flatC_at gCells 11 gCells_length _ (m + 1) b' hb' 1 _ rfl)
        have fa1 := hfz (m * 11 + 1)
        have a2 := hcl _ _ (flatC_at gCells 11 gCells_length _ m a ha 2 _ rfl)
        have b2 := hcl _ _ (flatC_at gCells 11 gCells_length _ (m + 1) b' hb' 2 _ rfl)
        have fa2 := hfz (m * 11 + 2)
        have a3 := hcl _ _ (flatC_at gCells 11 gCells_length _ m a ha 3 _ rfl)
        have b3 := hcl _ _ (flatC_at gCells 11 gCells_length _ (m + 1) b' hb' 3 _ rfl)
        have fa3 := hfz (m * 11 + 3)
        have a4 := hcl _ _ (flatC_at gCells 11 gCells_length _ m a ha 4 _ rfl)
        have b4 := hcl _ _ (flatC_at gCells 11 gCells_length _ (m + 1) b' hb' 4 _ rfl)
        have fa4 := hfz (m * 11 + 4)
        have a5 := hcl _ _ (flatC_at gCells 11 gCells_length _ m a ha 5 _ rfl)
        have b5 := hcl _ _ (flatC_at gCells 11 gCells_length _ (m + 1) b' hb' 5 _ rfl)
        have fa5 := hfz (m * 11 + 5)
        have kk1 : (k == 1) = false := by simp; omega
        have kk2 : (k == 2) = false := by simp; omega
        have hw0 : IntKind.i64.wrap (m : Int) = m := by rw [IntKind.wrap_i64]; omega
        have hw1 : IntKind.i64.wrap ((m : Int) + 1) = (m : Int) + 1 := by rw [IntKind.wrap_i64]; omega
        have hw2 : IntKind.i64.wrap ((m : Int) + 2 - 2) = (m : Int) := by rw [IntKind.wrap_i64]; omega
        have hw3 : IntKind.i64.wrap ((m : Int) + 2 - 1) = (m : Int) + 1 := by rw [IntKind.wrap_i64]; omega
        have hw4 : (0 : Int) ≤ (m : Int) := by omega
        have hw5 : (m : Int) < (m : Int) + 2 := by omega
        have hw6 : (m : Int) + 1 < (m : Int) + 2 := by omega
        have hw7 : (0 : Int) ≤ (m : Int) + 1 := by omega
        have hw8 : ((m : Int) + 1).toNat = m + 1 := by omega
        have HM := Lib.hid hm
        have HGK := Lib.hid (fun w' h' hk' => HG.out j k pre a b' HX.out HVS.out.symm w' h' hk')
        clear hop hcl hfz ha hb' hO hm hk1 hk2
        go_wp2
        go_cut [143] (fun s143 wx => Below wr.heap.size (set5 wr g (m * 11 + 1) (G k a b')) wx)
        case first =>
          go_region_law ((go_simp; go_at_call 45; refine (HGK.out _ (HE1.out.below (by repeat (first | with_reducible exact Below.refl _ _ | with_reducible assumption | with_reducible refine below_more' ?_ (by go_size) | with_reducible refine bel_alloc ?_ _ (by go_size) | with_reducible refine Below.drew ?_ | with_reducible refine Below.setCell ?_ (by go_size) _ | with_reducible refine below_drewN ?_ _))) (HKK.out.below (by repeat (first | with_reducible exact Below.refl _ _ | with_reducible assumption | with_reducible refine below_more' ?_ (by go_size) | with_reducible refine bel_alloc ?_ _ (by go_size) | with_reducible refine Below.drew ?_ | with_reducible refine Below.setCell ?_ (by go_size) _ | with_reducible refine below_drewN ?_ _)))).mono ?_; rintro e w5 ⟨rfl, hb⟩; obtain ⟨l5, m5, rfl⟩ := more_of_below hb; clear hb))
          all_goals (go_wp2_with fail; go_meet; unfold set5; exact (by repeat (first | with_reducible exact Below.refl _ _ | with_reducible assumption | with_reducible refine below_more' ?_ (by go_size) | with_reducible refine bel_alloc ?_ _ (by go_size) | with_reducible refine Below.drew ?_ | with_reducible refine Below.setCell ?_ (by go_size) _ | with_reducible refine below_drewN ?_ _)))
        case rest =>
          obtain rfl := HM.out
          have R := WRel.op (pre := pre) (a := a) (b := b') (v := G k a b') HR'.out HB0.out hcut
          have HR3 := Lib.hid R
          clear R hcut
          go_wp2
          exact ⟨⟨j + 1, by omega, by go_num, _, _, _, by rw [hst.out]; exact HR3.out⟩, by simp [intOf]; omega⟩
    · obtain rfl : j = n := by omega
      rw [List.take_of_length_le (by omega), HV.out] at hR
      obtain ⟨g, cc, rfl, hcap, hcm, hbg, hgl, hcl, hfz⟩ := stk_form hR.own (by simp)
      have e1 : wr.cell? ⟨g, 1, none⟩ = some (.int .i64 r.tag) := hcl 1 _ rfl
      have e2 : wr.cell? ⟨g, 2, none⟩ = some (.int .i64 r.num) := hcl 2 _ rfl
      have e3 : wr.cell? ⟨g, 3, none⟩ = some (.string r.str) := hcl 3 _ rfl
      have e4 : wr.cell? ⟨g, 4, none⟩ = some (.bool r.is) := hcl 4 _ rfl
      have e5 : wr.cell? ⟨g, 5, none⟩ = some (.int .i64 r.code) := hcl 5 _ rfl
      have hz : wr.heap[w.heap.size + 1]? = some (.cells #[.int .i64 0, .int .i64 0, .string ⟨#[]⟩, .bool false, .int .i64 0] 29 (0, 0)) := (hR.kept.2.2.2.2 _ (by omega) (by omega) HNE2.out).trans HZ.out
      have v0 : wr.cell? ⟨w.heap.size + 1, 0, none⟩ = some (.int .i64 0) := cell_of_row wr _ 0 _ _ (0, 0) hz
      have v1 : wr.cell? ⟨w.heap.size + 1, 1, none⟩ = some (.int .i64 0) := cell_of_row wr _ 1 _ _ (0, 0) hz
      have v2 : wr.cell? ⟨w.heap.size + 1, 2, none⟩ = some (.string ⟨#[]⟩) := cell_of_row wr _ 2 _ _ (0, 0) hz
      have v3 : wr.cell? ⟨w.heap.size + 1, 3, none⟩ = some (.bool false) := cell_of_row wr _ 3 _ _ (0, 0) hz
      have v4 : wr.cell? ⟨w.heap.size + 1, 4, none⟩ = some (.int .i64 0) := cell_of_row wr _ 4 _ _ (0, 0) hz
      have f0 := frozen_of_row wr (w.heap.size + 1) 0 _ _ hz
      have f1 := frozen_of_row wr (w.heap.size + 1) 1 _ _ hz
      have f2 := frozen_of_row wr (w.heap.size + 1) 2 _ _ hz
      have f3 := frozen_of_row wr (w.heap.size + 1) 3 _ _ hz
      have f4 := frozen_of_row wr (w.heap.size + 1) 4 _ _ hz
      have HR' := Lib.hid hR
      clear hR hcl hfz hz
      go_wp2
      have hR := HR'.out
      have hsrc := hR.src
      have hkept := (Kept2.of_below (pt := pt) (row := asked.ownBlock) HB1.out).trans hR.kept (.inl rfl)
      have hz1' : w.heap.size + 1 ≠ pt := by omega
      have hz2' : w.heap.size + 1 ≠ pc := by have := HSR.out.lc; have := HSR.out.le; omega
      have hz3' : ask1.ownBlock ≠ some (w.heap.size + 1) := fun e => by
        rcases hR.row with h | h
        · exact HNE2.out (h ▸ e)
        · have := h _ e; omega
      have hz4' : w.heap.size ≤ w.heap.size + 1 := by omega
      have hrw : ask1.ownBlock = asked.ownBlock ∨ ∀ k, ask1.ownBlock = some k → w.heap.size ≤ k := by
        rcases hR.row with h | h
        · exact .inl h
        · exact .inr fun k hk => by have := h k hk; omega
      exact bodyPost_ret (by simp [results, Tryz.results22, go_sem, cell_set_some, v0, v1, v2, v3, v4]; try rfl) rfl ⟨rfl, ask1, na1, L1, (((((hsrc.set hz1' hz2' hz3').set hz1' hz2' hz3').set hz1' hz2' hz3').set hz1' hz2' hz3').set hz1' hz2' hz3'), hR.le, (((((hkept.set hz4').set hz4').set hz4').set hz4').set hz4'), hrw⟩
theorem eval_Work (pe : Nat) (tp : Addr) (text : Int) (G : Int → V → V → V) (xs : List Nd) (bn off n c B0 : Nat) (B pt pc : Nat) (ents : List Ent) (asked : Value) (na : Nat) (L : List Value) (w : World)
    (hr : Reads w B0 15 (some ⟨bn, off, none⟩) n (flatC Nd.cells xs)) (h1 : 1 ≤ n) (h2 : n ≤ 1024) (hw : Wf xs) (d b : Int) (hs : stkP xs = [(d, b)]) (hd : d ≤ 32) (r : V) (hv : stkV ents G xs = [r])
    (hE : AtB w pe (evCells tp text)) (hsrc : Src w B pt pc ents asked na L) (hn : ents.length ≤ 1000000) (ha : na ≤ 900000) (hbn : bn ≠ pt) (hbn2 : asked.ownBlock ≠ some bn) (hpe : pe ≠ pt) (hpe2 : asked.ownBlock ≠ some pe)
    (hsh : ∀ (j : Nat) (x : Nd), xs[j]? = some x → x.kind = 1 → (x.v.str.size : Int) ≤ text)
    (hG : ∀ (j : Nat) (k : Int) (pre : List V) (a b : V), xs[j]? = some (Nd.opn k) → stkV ents G (xs.take j) = pre ++ [a, b] → ∀ w', AtB w' pe (evCells tp text) → Calls Tryz.prog 45 #[.pointer (some ⟨pe, 0, none⟩), .int .i64 k, (Value.agg #[Value.int .i64 (a).tag, Value.int .i64 (a).num, Value.string (a).str, Value.bool (a).is, Value.int .i64 (a).code]), (Value.agg #[Value.int .i64 (b).tag, Value.int .i64 (b).num, Value.string (b).str, Value.bool (b).is, Value.int .i64 (b).code])] w' fun e w'' => e = .returned (Value.agg #[Value.int .i64 (G k a b).tag, Value.int .i64 (G k a b).num, Value.string (G k a b).str, Value.bool (G k a b).is, Value.int .i64 (G k a b).code]) ∧ Below w'.heap.size w' w'') :
    Calls Tryz.prog 22 #[.pointer (some ⟨pe, 0, none⟩), .agg #[.slice (some ⟨bn, off, none⟩) n c], .iface 56 (.pointer (some ⟨pt, 0, none⟩))] w fun e w' => e = .returned (Value.agg #[Value.int .i64 (r).tag, Value.int .i64 (r).num, Value.string (r).str, Value.bool (r).is, Value.int .i64 (r).code]) ∧ ∃ asked' na' L', Src w' B pt pc ents asked' na' L' ∧ na' ≤ na + n ∧ Kept2 pt asked.ownBlock w w' ∧ (asked'.ownBlock = asked.ownBlock ∨ ∀ k, asked'.ownBlock = some k → w.heap.size ≤ k) :=
  eval_WorkK pe tp text G xs bn off n c B0 B pt pc ents asked na L w hr h1 h2 hw d b hs hd r hv hE hsrc hn ha hbn hbn2 hpe hpe2 hsh fun j k pre a b h1 h2 w' h3 _ => hG j k pre a b h1 h2 w' h3
end Go.Proofs.YtegbhdeaicgpkaaGreatDoor
