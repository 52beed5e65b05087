/-
  Parts of a proof: AggA.
-/
import Derived.Test.YtegbhdeaicgpkaaGreatDoorJ18
import Derived.Test.YtegbhdeaicgpkaaGreatDoorJ24
import Derived.Test.YtegbhdeaicgpkaaGreatDoorJ04
set_option linter.all false
namespace Go.Proofs.YtegbhdeaicgpkaaGreatDoor
open Go Go.RowKit
def itemsA (p : Arg × List En) : List V := (if p.1.many then [] else [p.1.val]) ++ p.2.map En.v
def itemsG (l : List (Arg × List En)) : List V := l.flatMap itemsA
theorem itemsG_snoc {l : List (Arg × List En)} {j : Nat} {p : Arg × List En} (h : l[j]? = some p) : itemsG (l.take (j + 1)) = itemsG (l.take j) ++ itemsA p := by
  rw [take_one h]
  simp [itemsG]
theorem itemsG_le {l : List (Arg × List En)} {j : Nat} {p : Arg × List En} (h : l[j]? = some p) : (itemsG (l.take j)).length + (itemsA p).length ≤ (itemsG l).length := by
  rw [← List.length_append, ← itemsG_snoc h]
  conv => rhs; rw [← List.take_append_drop (j + 1) l]
  unfold itemsG
  rw [List.flatMap_append, List.length_append]
  omega
set_option maxRecDepth 100000 in
set_option maxHeartbeats 4000000 in
theorem aggs_items (pl : List (Arg × List En)) (A : Option Addr) (n c B : Nat) (w : World) (hr : Reads w B 11 A n (argFlat (pl.map Prod.fst))) (hE : ∀ p ∈ pl, EntsAt w p.1 p.2) (hT : (itemsG pl).length ≤ 1000000000000) (hm : n ≤ 1000000000000) (hnn : ∀ p ∈ pl, p.1.n ≤ 1000000000000) :
    Calls Tryz.prog 181 #[.slice A n c] w fun e w' => ∃ v, e = .returned v ∧ w'.ownsRow w.heap.size 29 5 v (itemsG pl).length (flat (itemsG pl)) ∧ Below w.heap.size w w' := by
  have hlen : pl.length = n := by
    have := hr.1
    rw [argFlat_length, List.length_map] at this
    omega
  have HR := Lib.hid hr
  have HE := Lib.hid hE
  have HT := Lib.hid hT
  have HLEN := Lib.hid hlen
  have HNN := Lib.hid hnn
  clear hr hE hT hnn
  obtain ⟨i0, hi, hz0, hz1, hz2⟩ := info_parts info_V
  go_enter Tryz.func181, Tryz.ntmps181
  go_wp2
  go_loopw [10, 3] (fun t v wr => ∃ j : Nat, j ≤ n ∧ t = .int .i64 j ∧ GathRel w wr 29 5 v (itemsG (pl.take j)).length (flat (itemsG (pl.take j)))) (fun t _ _ => n - (intOf t).toNat)
  case atStart => exact ⟨0, Nat.zero_le _, rfl, Below.refl _ _, World.ownsRow_nil _ _ _ _⟩
  case round =>
    obtain ⟨j, hj, rfl, hG⟩ := hrel
    by_cases hlt : j < n
    · obtain ⟨p, hp⟩ : ∃ p, pl[j]? = some p := ⟨_, List.getElem?_eq_getElem (show j < pl.length by omega)⟩
      obtain ⟨bk, off, rfl, _, hc⟩ := HR.out.2 (by omega)
      have hws := hG.1.size
      have hcell : ∀ i u, p.1.cells[i]? = some u → wr.cell? ⟨bk, off + (j * 11 + i), none⟩ = some u := fun i u hu => by
        have h1 := hc _ u (argFlat_at (pl.map Prod.fst) j p.1 (by rw [List.getElem?_map, hp]; rfl) i u hu)
        exact (hG.1.cell (p := ⟨bk, _, none⟩) (World.block_lt_of_cell? w _ h1)).trans h1
      have c0 := hcell 0 _ rfl
      have c1 := hcell 1 _ rfl
      have c2 := hcell 2 _ rfl
      have c3 := hcell 3 _ rfl
      have c4 := hcell 4 _ rfl
      have c5 := hcell 5 _ rfl
      have c6 := hcell 6 _ rfl
      have c7 := hcell 7 _ rfl
      have c8 := hcell 8 _ rfl
      have c9 := hcell 9 _ rfl
      have c10 := hcell 10 _ rfl
      simp only [← Nat.add_assoc, Nat.add_zero] at c0 c1 c2 c3 c4 c5 c6 c7 c8 c9 c10
      have hbr : bk < wr.heap.size := World.block_lt_of_cell? wr _ c0
      have hle := itemsG_le hp
      have hsn := itemsG_snoc hp
      have hmn := HNN.out p (List.mem_of_getElem? hp)
      have HEP := Lib.hid (HE.out p (List.mem_of_getElem? hp))
      have HG := Lib.hid hG
      clear hcell hc hp hG
      obtain ⟨WO, hWO⟩ : ∃ WO, WO = wr := ⟨_, rfl⟩
      subst hWO
      obtain ⟨⟨many, val, top, left, bottom, right, ents, m, cc⟩, es⟩ := p
      simp only at c0 c1 c2 c3 c4 c5 c6 c7 c8 c9 c10 hmn
      have hel0 : es.length = m := HEP.out.1
      have HER := Lib.hid (show Reads w w.heap.size 7 ents m (flatC En.cells es) from HEP.out.2)
      clear HEP
      obtain ⟨r, hr⟩ : ∃ r, r = itemsG (pl.take j) := ⟨_, rfl⟩
      rw [← hr] at hle hsn HG
      clear hr
      cases many
      · have hel : (itemsA (⟨false, val, top, left, bottom, right, ents, m, cc⟩, es)).length = 1 + m := by simp [itemsA]; omega
        have hrl : r.length + 1 + m ≤ 1000000000000 := by have := HT.out; omega
        go_wp2_with (first | (at_builtin; refine wpList_append_own _ rfl _ _ 221 rfl w.heap.size 29 i0 _ 5 48 Tryz.underlying221 hi hz0 hz1 hz2 rfl (by decide) _ _ _ rfl (own_below HG.out.2 (by (with_reducible repeat' (first | exact .refl _ _ | assumption | refine bmP ?_ ?_ | refine baP ?_ _ ?_ | refine .drew ?_ | refine .setCell ?_ ?_ _ | refine bdP ?_ _)) <;> go_size)) _ 1 1 val.cells rfl rfl ?_ ?_ ?_ ?_ ?_ ?_))
        · first | exact fun i u hu => fresh_cells (by simp) i u hu | exact fun i u hu => hu
        · exact cells_one _
        · simp only [maxLen]; omega
        · omega
        · have h1 := HG.out.1.size
          simp at h1 ⊢
          omega
        · intro v' w3 hown' hgrow _
          have R := GathRel.step HG.out (by (with_reducible repeat' (first | exact .refl _ _ | assumption | refine bmP ?_ ?_ | refine baP ?_ _ ?_ | refine .drew ?_ | refine .setCell ?_ ?_ _ | refine bdP ?_ _)) <;> go_size) (show w3.ownsRow w.heap.size 29 5 v' (r.length + 1) (flat (r) ++ val.cells) from by simpa using hown') hgrow
          rw [show flat (r) ++ val.cells = flat (r ++ [val]) by rw [flat_append]; simp [flat], show r.length + 1 = (r ++ [val]).length by simp] at R
          obtain ⟨q, hq⟩ : ∃ q, q = r ++ [val] := ⟨_, rfl⟩
          rw [← hq] at R
          have HG2 := Lib.hid R
          have HQ := Lib.hid (show q ++ es.map En.v = itemsG (pl.take (j + 1)) by rw [hsn, hq]; simp [itemsA])
          have HQL := Lib.hid (show q.length + m ≤ 1000000000000 by rw [hq]; simp; omega)
          have e10 : w3.cell? ⟨WO.heap.size, 10, none⟩ = some (.slice ents m cc) := (World.cell?_of_block (a := ⟨WO.heap.size, 10, none⟩) (hgrow.block _ (by simp; omega) (fun e => Nat.lt_irrefl _ (HG.out.2.lt _ e.symm).2))).trans (by go_simp)
          have l10 := World.block_lt_of_cell? w3 _ e10
          clear hown' hgrow R hq HG hsn hle hel hrl c0 c1 c2 c3 c4 c5 c6 c7 c8 c9 c10
          go_wp2
          go_loopw [25, 3] (fun t v wr => ∃ k : Nat, ∃ z : List V, k ≤ m ∧ t = .int .i64 k ∧ z = q ++ (es.take k).map En.v ∧ GathRel w wr 29 5 v z.length (flat z)) (fun t _ _ => m - (intOf t).toNat)
          case atStart => exact ⟨0, q, Nat.zero_le _, rfl, by simp, HG2.out⟩
          case round =>
            obtain ⟨k, z, hk, rfl, hz, hG3⟩ := hrel
            have HG3 := Lib.hid hG3
            have HZ := Lib.hid hz
            clear hG3 hz
            by_cases hkl : k < m
            · obtain ⟨x, hx⟩ : ∃ x, es[k]? = some x := ⟨_, List.getElem?_eq_getElem (show k < es.length by omega)⟩
              obtain ⟨bk, off, rfl, _, hc⟩ := HER.out.2 (by omega)
              have hws := HG3.out.1.size
              have hcell : ∀ i u, x.cells[i]? = some u → wr.cell? ⟨bk, off + (k * 7 + i), none⟩ = some u := fun i u hu => by
                have h1 := hc _ u (flatC_at En.cells 7 (fun _ => rfl) es k x hx i u hu)
                exact (HG3.out.1.cell (p := ⟨bk, _, none⟩) (World.block_lt_of_cell? w _ h1)).trans h1
              have e0 := hcell 0 _ rfl
              have e1 := hcell 1 _ rfl
              have e2 := hcell 2 _ rfl
              have e3 := hcell 3 _ rfl
              have e4 := hcell 4 _ rfl
              have e5 := hcell 5 _ rfl
              have e6 := hcell 6 _ rfl
              simp only [← Nat.add_assoc, Nat.add_zero] at e0 e1 e2 e3 e4 e5 e6
              have hbr2 : bk < wr.heap.size := World.block_lt_of_cell? wr _ e0
              have HX := Lib.hid (show z ++ [x.v] = q ++ (es.take (k + 1)).map En.v by rw [HZ.out, take_one hx]; simp)
              have hql : z.length + 1 ≤ 1000000000000 := by have := HQL.out; rw [HZ.out]; simp; omega
              clear hcell hc hx
              go_wp2_with (first | (at_builtin; refine wpList_append_own _ rfl _ _ 221 rfl w.heap.size 29 i0 _ 5 48 Tryz.underlying221 hi hz0 hz1 hz2 rfl (by decide) _ _ _ rfl (own_below HG3.out.2 (by (with_reducible repeat' (first | exact .refl _ _ | assumption | refine bmP ?_ ?_ | refine baP ?_ _ ?_ | refine .drew ?_ | refine .setCell ?_ ?_ _ | refine bdP ?_ _)) <;> go_size)) _ 1 1 x.v.cells rfl rfl ?_ ?_ ?_ ?_ ?_ ?_))
              · first | exact fun i u hu => fresh_cells (by simp) i u hu | exact fun i u hu => hu
              · exact cells_one _
              · simp only [maxLen]; omega
              · omega
              · have h1 := HG3.out.1.size
                simp at h1 ⊢
                omega
              · intro v' w3 hown' hgrow _
                have R := GathRel.step HG3.out (by (with_reducible repeat' (first | exact .refl _ _ | assumption | refine bmP ?_ ?_ | refine baP ?_ _ ?_ | refine .drew ?_ | refine .setCell ?_ ?_ _ | refine bdP ?_ _)) <;> go_size) (show w3.ownsRow w.heap.size 29 5 v' (z.length + 1) (flat (z) ++ x.v.cells) from by simpa using hown') hgrow
                rw [show flat (z) ++ x.v.cells = flat (z ++ [x.v]) by rw [flat_append]; simp [flat], show z.length + 1 = (z ++ [x.v]).length by simp] at R
                have HG' := Lib.hid R
                clear hown' hgrow R HG3 e0 e1 e2 e3 e4 e5 e6
                go_wp2
                go_roundw
                case rel => exact ⟨k + 1, _, by omega, by go_num, HX.out, HG'.out⟩
                case measure => simp [intOf]; omega
            · obtain rfl : k = m := by omega
              have hz := HZ.out
              rw [List.take_of_length_le (show es.length ≤ k by omega), HQ.out] at hz
              have hG3 := HG3.out
              rw [hz] at hG3
              have HG' := Lib.hid hG3
              clear hG3 HG3 hz HZ
              go_wp2
              go_roundw
              case rel => exact ⟨j + 1, by omega, by go_num, HG'.out⟩
              case measure => simp [intOf]; omega
      · have hel : (itemsA (⟨true, val, top, left, bottom, right, ents, m, cc⟩, es)).length = m := by simp [itemsA]; omega
        obtain ⟨q, hq⟩ : ∃ q, q = r := ⟨_, rfl⟩
        have HQ := Lib.hid (show q ++ es.map En.v = itemsG (pl.take (j + 1)) by rw [hsn, hq]; simp [itemsA])
        have HQL := Lib.hid (show q.length + m ≤ 1000000000000 by have := HT.out; rw [hq]; omega)
        rw [← hq] at HG
        clear hq
        go_wp2
        go_loopw [25, 3] (fun t v wr => ∃ k : Nat, ∃ z : List V, k ≤ m ∧ t = .int .i64 k ∧ z = q ++ (es.take k).map En.v ∧ GathRel w wr 29 5 v z.length (flat z)) (fun t _ _ => m - (intOf t).toNat)
        case atStart => exact ⟨0, q, Nat.zero_le _, rfl, by simp, HG.out.1.trans ((show Below WO.heap.size WO _ from (by (with_reducible repeat' (first | exact .refl _ _ | assumption | refine bmP ?_ ?_ | refine baP ?_ _ ?_ | refine .drew ?_ | refine .setCell ?_ ?_ _ | refine bdP ?_ _)) <;> go_size)).mono HG.out.1.size), own_below HG.out.2 (by (with_reducible repeat' (first | exact .refl _ _ | assumption | refine bmP ?_ ?_ | refine baP ?_ _ ?_ | refine .drew ?_ | refine .setCell ?_ ?_ _ | refine bdP ?_ _)) <;> go_size)⟩
        case round =>
          obtain ⟨k, z, hk, rfl, hz, hG3⟩ := hrel
          have HG3 := Lib.hid hG3
          have HZ := Lib.hid hz
          clear hG3 hz
          by_cases hkl : k < m
          · obtain ⟨x, hx⟩ : ∃ x, es[k]? = some x := ⟨_, List.getElem?_eq_getElem (show k < es.length by omega)⟩
            obtain ⟨bk, off, rfl, _, hc⟩ := HER.out.2 (by omega)
            have hws := HG3.out.1.size
            have hcell : ∀ i u, x.cells[i]? = some u → wr.cell? ⟨bk, off + (k * 7 + i), none⟩ = some u := fun i u hu => by
              have h1 := hc _ u (flatC_at En.cells 7 (fun _ => rfl) es k x hx i u hu)
              exact (HG3.out.1.cell (p := ⟨bk, _, none⟩) (World.block_lt_of_cell? w _ h1)).trans h1
            have e0 := hcell 0 _ rfl
            have e1 := hcell 1 _ rfl
            have e2 := hcell 2 _ rfl
            have e3 := hcell 3 _ rfl
            have e4 := hcell 4 _ rfl
            have e5 := hcell 5 _ rfl
            have e6 := hcell 6 _ rfl
            simp only [← Nat.add_assoc, Nat.add_zero] at e0 e1 e2 e3 e4 e5 e6
            have hbr2 : bk < wr.heap.size := World.block_lt_of_cell? wr _ e0
            have HX := Lib.hid (show z ++ [x.v] = q ++ (es.take (k + 1)).map En.v by rw [HZ.out, take_one hx]; simp)
            have hql : z.length + 1 ≤ 1000000000000 := by have := HQL.out; rw [HZ.out]; simp; omega
            clear hcell hc hx
            go_wp2_with (first | (at_builtin; refine wpList_append_own _ rfl _ _ 221 rfl w.heap.size 29 i0 _ 5 48 Tryz.underlying221 hi hz0 hz1 hz2 rfl (by decide) _ _ _ rfl (own_below HG3.out.2 (by (with_reducible repeat' (first | exact .refl _ _ | assumption | refine bmP ?_ ?_ | refine baP ?_ _ ?_ | refine .drew ?_ | refine .setCell ?_ ?_ _ | refine bdP ?_ _)) <;> go_size)) _ 1 1 x.v.cells rfl rfl ?_ ?_ ?_ ?_ ?_ ?_))
            · first | exact fun i u hu => fresh_cells (by simp) i u hu | exact fun i u hu => hu
            · exact cells_one _
            · simp only [maxLen]; omega
            · omega
            · have h1 := HG3.out.1.size
              simp at h1 ⊢
              omega
            · intro v' w3 hown' hgrow _
              have R := GathRel.step HG3.out (by (with_reducible repeat' (first | exact .refl _ _ | assumption | refine bmP ?_ ?_ | refine baP ?_ _ ?_ | refine .drew ?_ | refine .setCell ?_ ?_ _ | refine bdP ?_ _)) <;> go_size) (show w3.ownsRow w.heap.size 29 5 v' (z.length + 1) (flat (z) ++ x.v.cells) from by simpa using hown') hgrow
              rw [show flat (z) ++ x.v.cells = flat (z ++ [x.v]) by rw [flat_append]; simp [flat], show z.length + 1 = (z ++ [x.v]).length by simp] at R
              have HG' := Lib.hid R
              clear hown' hgrow R HG3 e0 e1 e2 e3 e4 e5 e6
              go_wp2
              go_roundw
              case rel => exact ⟨k + 1, _, by omega, by go_num, HX.out, HG'.out⟩
              case measure => simp [intOf]; omega
          · obtain rfl : k = m := by omega
            have hz := HZ.out
            rw [List.take_of_length_le (show es.length ≤ k by omega), HQ.out] at hz
            have hG3 := HG3.out
            rw [hz] at hG3
            have HG' := Lib.hid hG3
            clear hG3 HG3 hz HZ
            go_wp2
            go_roundw
            case rel => exact ⟨j + 1, by omega, by go_num, HG'.out⟩
            case measure => simp [intOf]; omega
    · obtain rfl : j = n := by omega
      have hG := hG
      rw [List.take_of_length_le (by omega)] at hG
      obtain ⟨hB, hO⟩ := hG
      have HO := Lib.hid hO
      have HB := Lib.hid hB
      clear hO hB
      go_wp2
      go_returns
      exact ⟨_, rfl, HO.out, HB.out⟩
end Go.Proofs.YtegbhdeaicgpkaaGreatDoor
