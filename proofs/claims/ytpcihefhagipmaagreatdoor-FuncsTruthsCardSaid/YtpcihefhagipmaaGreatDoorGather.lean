/-
  The closure of funcs.singles that gathers the values of the arguments and asks a function: what it answers, given what the function answers.
-/
import Derived.Test.YtpcihefhagipmaaGreatDoorSing
namespace Go.Proofs.YtpcihefhagipmaaGreatDoor
open Go Go.RowKit

theorem own_below {w w1 : World} {base e size n : Nat} {v : Value} {xs : List Value} (h : w.ownsRow base e size v n xs) (hb : Below w.heap.size w w1) : w1.ownsRow base e size v n xs := by
  refine ⟨h.1, ?_⟩
  rcases h.2 with h2 | ⟨g, cap, cur, e1, hg, hh, rest⟩
  · exact .inl h2
  · exact .inr ⟨g, cap, cur, e1, hg, (hb.block g (Array.getElem?_eq_some_iff.1 hh).1).trans hh, rest⟩
theorem own_block_ge {w : World} {base e size n : Nat} {v : Value} {xs : List Value} (h : w.ownsRow base e size v n xs) : ∀ k, v.ownBlock = some k → base ≤ k := fun k hk => (h.lt k hk).1
theorem Reads.of_own {w : World} {size n base c : Nat} {e : TypeId} {A : Option Addr} {xs : List Value} (h : w.ownsRow base e size (.slice A n c) n xs) : Reads w w.heap.size size A n xs := by
  refine ⟨h.1, fun hn => ?_⟩
  rcases h.2 with ⟨_, h2⟩ | ⟨g, cap, cur, e1, hg, hh, h1, h2, h3, h4⟩
  · omega
  · injection e1 with e1
    subst e1
    refine ⟨g, 0, rfl, (Array.getElem?_eq_some_iff.1 hh).1, fun j u hu => ?_⟩
    have := h.cells (g := g) rfl j u hu
    rw [← this]
    congr 1
    unfold Addr.add
    split <;> simp_all
/-- What is owned, where it is not empty: its form. -/
theorem own_form {w : World} {base e size n : Nat} {v : Value} {xs : List Value} (h : w.ownsRow base e size v n xs) (hn : 0 < n) : ∃ g c, v = .slice (some ⟨g, 0, none⟩) n c ∧ base ≤ g ∧ g < w.heap.size ∧ ∀ j u, xs[j]? = some u → w.cell? ⟨g, j, none⟩ = some u := by
  rcases h.2 with ⟨_, h2⟩ | ⟨g, cap, cur, e1, hg, hh, h1, h2, h3, h4⟩
  · omega
  · subst e1
    refine ⟨g, cap, rfl, hg, (Array.getElem?_eq_some_iff.1 hh).1, fun j u hu => ?_⟩
    have := h.cells (g := g) rfl j u hu
    rw [← this]
    congr 1
    unfold Addr.add
    split <;> simp_all
theorem take_one {α : Type} {xs : List α} {k : Nat} {a : α} (h : xs[k]? = some a) : xs.take (k + 1) = xs.take k ++ [a] := by
  rw [List.take_add_one, h]
  rfl
theorem flat_append (xs ys : List V) : flat (xs ++ ys) = flat xs ++ flat ys := by simp [flat]
theorem info_V : (Tryz.prog.info? 25).map (fun i => (i.zero, i.size, i.bytes)) = some (some (.agg #[.int .i64 0, .int .i64 0, .string ⟨#[]⟩, .bool false, .int .i64 0]), 5, 48) := by kernel_rfl
theorem info_B : (Tryz.prog.info? 4).map (fun i => (i.zero, i.size, i.bytes)) = some (some (.bool false), 1, 1) := by kernel_rfl

theorem cell_blk {w : World} {b i : Nat} {cs : Array Value} {t : TypeId} {v : Value} (h : w.heap[b]? = some (.cells cs t (0, 0))) (hv : cs[i]? = some v) : w.cell? ⟨b, i, none⟩ = some v := (cell_of_row w b i cs t (0, 0) h).trans hv
theorem free_blk {w : World} {b i : Nat} {cs : Array Value} {t : TypeId} (h : w.heap[b]? = some (.cells cs t (0, 0))) : w.frozen? ⟨b, i, none⟩ = false := by simp [World.frozen?, h]

theorem fresh_cells {w : World} {cs : Array Value} {t : TypeId} {b : Nat} (hb : b = w.heap.size) : ∀ j u, cs.toList[j]? = some u → (w.alloc (.cells cs t)).cell? ((⟨b, 0, none⟩ : Addr).add j) = some u := by
  subst hb
  intro j u hu
  have e : (⟨w.heap.size, 0, none⟩ : Addr).add j = ⟨w.heap.size, j, none⟩ := by unfold Addr.add; split <;> simp_all
  rw [e, cell_of_row (w.alloc (.cells cs t)) w.heap.size j cs t (0, 0) (heap_alloc_new w _)]
  simpa using hu
theorem cells_one (v : V) : ∀ u ∈ v.cells, u.oneCell' = true := by
  intro u hu
  simp only [V.cells, List.mem_cons, List.not_mem_nil, or_false] at hu
  rcases hu with rfl | rfl | rfl | rfl | rfl <;> rfl
/-- What the rounds keep: what stood, and what has been gathered. -/
def GathRel (w wr : World) (e : TypeId) (size : Nat) (v : Value) (k : Nat) (xs : List Value) : Prop := Below w.heap.size w wr ∧ wr.ownsRow w.heap.size e size v k xs
theorem GathRel.step {w wr w2 w3 : World} {e : TypeId} {size : Nat} {v v' : Value} {k : Nat} {xs ys : List Value} (h : GathRel w wr e size v k xs) (hb : Below wr.heap.size wr w2)
    (ho : w3.ownsRow w.heap.size e size v' (k + 1) (xs ++ ys)) (hg : w2.grownBy w3 v.ownBlock) : GathRel w w3 e size v' (k + 1) (xs ++ ys) := by
  obtain ⟨h1, h3⟩ := h
  have hrow := own_block_ge h3
  have s1 := h1.size
  have s2 := hb.size
  exact ⟨(h1.trans (hb.mono (by omega))).grown hg (by omega) hrow, ho⟩
def zeroV : Obj := .cells #[.int .i64 0, .int .i64 0, .string ⟨#[]⟩, .bool false, .int .i64 0] 25

set_option maxRecDepth 100000 in
theorem gather0 (pd k : Nat) (hk : ∀ (args : Array Value) (w : World), Sem.run Tryz.prog (callFunc k args) w = .ok (.enter k args) w) (tx : Int) (xs : List Arg) (A : Option Addr) (n c B : Nat) (w : World) (hp : w.cell? ⟨pd, 0, none⟩ = some (.func (.func k) #[] #[])) (hr : Reads w B 11 A n (argFlat xs)) (hm : n ≤ 1000000000000) (h0 : 0 < n) (r : V)
    (hd : ∀ w' g c', Below w.heap.size w w' → Held w' g (xs.map Arg.val) → Calls Tryz.prog k #[.slice (some ⟨g, 0, none⟩) n c'] w' fun e w'' => e = .returned (Value.agg #[Value.int .i64 (r).tag, Value.int .i64 (r).num, Value.string (r).str, Value.bool (r).is, Value.int .i64 (r).code]) ∧ Below w'.heap.size w' w'') :
    Calls Tryz.prog 114 #[.slice A n c, .int .i64 tx, .pointer (some ⟨pd, 0, none⟩)] w fun e w' => e = .returned (Value.agg #[Value.int .i64 (r).tag, Value.int .i64 (r).num, Value.string (r).str, Value.bool (r).is, Value.int .i64 (r).code]) ∧ Below w.heap.size w w' := by
  have hlen : xs.length = n := by
    have := hr.1
    rw [argFlat_length] at this
    omega
  obtain ⟨b, off, rfl, _, hc⟩ := hr.2 h0
  obtain ⟨vs, hvs⟩ : ∃ vs, vs = xs.map Arg.val := ⟨_, rfl⟩
  have hvl : vs.length = n := by rw [hvs, List.length_map, hlen]
  have hva : ∀ (j : Nat) (x : Arg), xs[j]? = some x → vs[j]? = some x.val := fun j x hx => by rw [hvs, List.getElem?_map, hx]; rfl
  rw [← hvs] at hd
  have HV := Lib.hid hva
  have HC := Lib.hid hc
  have HD := Lib.hid hd
  have hpl := World.block_lt_of_cell? w _ hp
  obtain ⟨i0, hi, hz0, hz1, hz2⟩ := info_parts info_V
  clear hr hc hd hva hvs
  go_enter Tryz.func114, Tryz.ntmps114
  go_wp2
  go_loopw [11, 6] (fun t v wr => ∃ j : Nat, j ≤ n ∧ t = .int .i64 j ∧ GathRel (w.alloc zeroV) wr 25 5 v j (flat (vs.take j))) (fun t _ _ => n - (intOf t).toNat)
  case atStart => exact ⟨0, Nat.zero_le _, rfl, Below.refl _ _, World.ownsRow_nil _ _ _ _⟩
  case round =>
    obtain ⟨j, hj, rfl, hR⟩ := hrel
    by_cases hlt : j < n
    · obtain ⟨x, hx⟩ : ∃ x, xs[j]? = some x := ⟨_, List.getElem?_eq_getElem (show j < xs.length by omega)⟩
      have hcell : ∀ i u, x.cells[i]? = some u → wr.cell? ⟨b, off + (j * 11 + i), none⟩ = some u := fun i u hu => by
        have h1 := HC.out _ u (argFlat_at xs j x hx i u hu)
        have h2 : b < w.heap.size := World.block_lt_of_cell? w _ h1
        exact (hR.1.cell (p := ⟨b, _, none⟩) (by simp; omega)).trans ((World.cell?_alloc_lt w _ _ h2).trans h1)
      have c0 := hcell 0 _ rfl
      have c1 := hcell 1 _ rfl
      have c2 := hcell 2 _ rfl
      have c3 := hcell 3 _ rfl
      have c4 := hcell 4 _ rfl
      have c5 := hcell 5 _ rfl
      have c6 := hcell 6 _ rfl
      have c7 := hcell 7 _ rfl
      have c8 := hcell 8 _ rfl
      have c9 := hcell 9 _ rfl
      have c10 := hcell 10 _ rfl
      simp only [← Nat.add_assoc, Nat.add_zero] at c0 c1 c2 c3 c4 c5 c6 c7 c8 c9 c10
      have hvx := Lib.hid (HV.out j x hx)
      have HR := Lib.hid hR
      clear hcell hR
      go_wp2_with (first | (at_builtin; refine wpList_append_own _ rfl _ _ 114 rfl (w.alloc zeroV).heap.size 25 i0 _ 5 48 Tryz.underlying114 hi hz0 hz1 hz2 rfl (by decide) _ _ _ rfl (own_below HR.out.2 (by repeat (first | with_reducible exact Below.refl _ _ | with_reducible assumption | with_reducible refine below_more' ?_ (by go_size) | with_reducible refine bel_alloc ?_ _ (by go_size) | with_reducible refine Below.drew ?_ | with_reducible refine Below.setCell ?_ (by go_size) _ | with_reducible refine below_drewN ?_ _))) _ 1 1 x.val.cells rfl rfl ?_ ?_ ?_ ?_ ?_ ?_))
      · exact fun i u hu => fresh_cells (by simp) i u hu
      · exact cells_one _
      · simp only [maxLen]; omega
      · omega
      · have h1 := HR.out.1.size
        simp at h1 ⊢
        omega
      · intro v' w1 hown' hgrow _
        have R := GathRel.step HR.out (by repeat (first | with_reducible exact Below.refl _ _ | with_reducible assumption | with_reducible refine below_more' ?_ (by go_size) | with_reducible refine bel_alloc ?_ _ (by go_size) | with_reducible refine Below.drew ?_ | with_reducible refine Below.setCell ?_ (by go_size) _ | with_reducible refine below_drewN ?_ _)) (show w1.ownsRow (w.alloc zeroV).heap.size 25 5 v' (j + 1) (flat (vs.take j) ++ x.val.cells) from by simpa using hown') hgrow
        have ef : flat (vs.take j) ++ x.val.cells = flat (vs.take (j + 1)) := by rw [take_one hvx.out, flat_append]; simp [flat]
        rw [ef] at R
        have HR' := Lib.hid R
        clear hown' hgrow R HR c0 c1 c2 c3 c4 c5 c6 c7 c8 c9 c10
        go_wp2
        go_roundw
        case rel => exact ⟨j + 1, by omega, by go_num, HR'.out⟩
        case measure => simp [intOf]; omega
    · obtain rfl : j = n := by omega
      rw [List.take_of_length_le (by omega)] at hR
      obtain ⟨hB, hO⟩ := hR
      obtain ⟨g, c', rfl, hg, hgl, hH⟩ := own_form hO h0
      have HH := Lib.hid (show Held wr g vs from hH)
      have HB := Lib.hid ((show Below w.heap.size w (w.alloc zeroV) from (by repeat (first | with_reducible exact Below.refl _ _ | with_reducible assumption | with_reducible refine below_more' ?_ (by go_size) | with_reducible refine bel_alloc ?_ _ (by go_size) | with_reducible refine Below.drew ?_ | with_reducible refine Below.setCell ?_ (by go_size) _ | with_reducible refine below_drewN ?_ _))).trans (hB.mono (by simp)))
      obtain ⟨l0, q0, rfl⟩ := more_of_below hB
      clear hO hH hB
      unfold zeroV at *
      go_wp2_with (with_reducible refine Calls.mono (HD.out _ g c' HB.out HH.out) ?_; rintro e w2 ⟨rfl, hb⟩; obtain ⟨l, q, rfl⟩ := more_of_below hb; clear hb)
      all_goals go_returns
      exact ⟨rfl, (by repeat (first | with_reducible exact Below.refl _ _ | with_reducible assumption | with_reducible refine below_more' ?_ (by go_size) | with_reducible refine bel_alloc ?_ _ (by go_size) | with_reducible refine Below.drew ?_ | with_reducible refine Below.setCell ?_ (by go_size) _ | with_reducible refine below_drewN ?_ _))⟩
set_option maxRecDepth 100000 in
theorem gather1 (pd k p : Nat) (hk : ∀ (args : Array Value) (w : World), Sem.run Tryz.prog (callFunc k args) w = .ok (.enter k args) w) (tx : Int) (xs : List Arg) (A : Option Addr) (n c B : Nat) (w : World) (hp : w.cell? ⟨pd, 0, none⟩ = some (.func (.func k) #[] #[.pointer (some ⟨p, 0, none⟩)])) (hr : Reads w B 11 A n (argFlat xs)) (hm : n ≤ 1000000000000) (h0 : 0 < n) (r : V)
    (hd : ∀ w' g c', Below w.heap.size w w' → Held w' g (xs.map Arg.val) → Calls Tryz.prog k #[.slice (some ⟨g, 0, none⟩) n c', .pointer (some ⟨p, 0, none⟩)] w' fun e w'' => e = .returned (Value.agg #[Value.int .i64 (r).tag, Value.int .i64 (r).num, Value.string (r).str, Value.bool (r).is, Value.int .i64 (r).code]) ∧ Below w'.heap.size w' w'') :
    Calls Tryz.prog 114 #[.slice A n c, .int .i64 tx, .pointer (some ⟨pd, 0, none⟩)] w fun e w' => e = .returned (Value.agg #[Value.int .i64 (r).tag, Value.int .i64 (r).num, Value.string (r).str, Value.bool (r).is, Value.int .i64 (r).code]) ∧ Below w.heap.size w w' := by
  have hlen : xs.length = n := by
    have := hr.1
    rw [argFlat_length] at this
    omega
  obtain ⟨b, off, rfl, _, hc⟩ := hr.2 h0
  obtain ⟨vs, hvs⟩ : ∃ vs, vs = xs.map Arg.val := ⟨_, rfl⟩
  have hvl : vs.length = n := by rw [hvs, List.length_map, hlen]
  have hva : ∀ (j : Nat) (x : Arg), xs[j]? = some x → vs[j]? = some x.val := fun j x hx => by rw [hvs, List.getElem?_map, hx]; rfl
  rw [← hvs] at hd
  have HV := Lib.hid hva
  have HC := Lib.hid hc
  have HD := Lib.hid hd
  have hpl := World.block_lt_of_cell? w _ hp
  obtain ⟨i0, hi, hz0, hz1, hz2⟩ := info_parts info_V
  clear hr hc hd hva hvs
  go_enter Tryz.func114, Tryz.ntmps114
  go_wp2
  go_loopw [11, 6] (fun t v wr => ∃ j : Nat, j ≤ n ∧ t = .int .i64 j ∧ GathRel (w.alloc zeroV) wr 25 5 v j (flat (vs.take j))) (fun t _ _ => n - (intOf t).toNat)
  case atStart => exact ⟨0, Nat.zero_le _, rfl, Below.refl _ _, World.ownsRow_nil _ _ _ _⟩
  case round =>
    obtain ⟨j, hj, rfl, hR⟩ := hrel
    by_cases hlt : j < n
    · obtain ⟨x, hx⟩ : ∃ x, xs[j]? = some x := ⟨_, List.getElem?_eq_getElem (show j < xs.length by omega)⟩
      have hcell : ∀ i u, x.cells[i]? = some u → wr.cell? ⟨b, off + (j * 11 + i), none⟩ = some u := fun i u hu => by
        have h1 := HC.out _ u (argFlat_at xs j x hx i u hu)
        have h2 : b < w.heap.size := World.block_lt_of_cell? w _ h1
        exact (hR.1.cell (p := ⟨b, _, none⟩) (by simp; omega)).trans ((World.cell?_alloc_lt w _ _ h2).trans h1)
      have c0 := hcell 0 _ rfl
      have c1 := hcell 1 _ rfl
      have c2 := hcell 2 _ rfl
      have c3 := hcell 3 _ rfl
      have c4 := hcell 4 _ rfl
      have c5 := hcell 5 _ rfl
      have c6 := hcell 6 _ rfl
      have c7 := hcell 7 _ rfl
      have c8 := hcell 8 _ rfl
      have c9 := hcell 9 _ rfl
      have c10 := hcell 10 _ rfl
      simp only [← Nat.add_assoc, Nat.add_zero] at c0 c1 c2 c3 c4 c5 c6 c7 c8 c9 c10
      have hvx := Lib.hid (HV.out j x hx)
      have HR := Lib.hid hR
      clear hcell hR
      go_wp2_with (first | (at_builtin; refine wpList_append_own _ rfl _ _ 114 rfl (w.alloc zeroV).heap.size 25 i0 _ 5 48 Tryz.underlying114 hi hz0 hz1 hz2 rfl (by decide) _ _ _ rfl (own_below HR.out.2 (by repeat (first | with_reducible exact Below.refl _ _ | with_reducible assumption | with_reducible refine below_more' ?_ (by go_size) | with_reducible refine bel_alloc ?_ _ (by go_size) | with_reducible refine Below.drew ?_ | with_reducible refine Below.setCell ?_ (by go_size) _ | with_reducible refine below_drewN ?_ _))) _ 1 1 x.val.cells rfl rfl ?_ ?_ ?_ ?_ ?_ ?_))
      · exact fun i u hu => fresh_cells (by simp) i u hu
      · exact cells_one _
      · simp only [maxLen]; omega
      · omega
      · have h1 := HR.out.1.size
        simp at h1 ⊢
        omega
      · intro v' w1 hown' hgrow _
        have R := GathRel.step HR.out (by repeat (first | with_reducible exact Below.refl _ _ | with_reducible assumption | with_reducible refine below_more' ?_ (by go_size) | with_reducible refine bel_alloc ?_ _ (by go_size) | with_reducible refine Below.drew ?_ | with_reducible refine Below.setCell ?_ (by go_size) _ | with_reducible refine below_drewN ?_ _)) (show w1.ownsRow (w.alloc zeroV).heap.size 25 5 v' (j + 1) (flat (vs.take j) ++ x.val.cells) from by simpa using hown') hgrow
        have ef : flat (vs.take j) ++ x.val.cells = flat (vs.take (j + 1)) := by rw [take_one hvx.out, flat_append]; simp [flat]
        rw [ef] at R
        have HR' := Lib.hid R
        clear hown' hgrow R HR c0 c1 c2 c3 c4 c5 c6 c7 c8 c9 c10
        go_wp2
        go_roundw
        case rel => exact ⟨j + 1, by omega, by go_num, HR'.out⟩
        case measure => simp [intOf]; omega
    · obtain rfl : j = n := by omega
      rw [List.take_of_length_le (by omega)] at hR
      obtain ⟨hB, hO⟩ := hR
      obtain ⟨g, c', rfl, hg, hgl, hH⟩ := own_form hO h0
      have HH := Lib.hid (show Held wr g vs from hH)
      have HB := Lib.hid ((show Below w.heap.size w (w.alloc zeroV) from (by repeat (first | with_reducible exact Below.refl _ _ | with_reducible assumption | with_reducible refine below_more' ?_ (by go_size) | with_reducible refine bel_alloc ?_ _ (by go_size) | with_reducible refine Below.drew ?_ | with_reducible refine Below.setCell ?_ (by go_size) _ | with_reducible refine below_drewN ?_ _))).trans (hB.mono (by simp)))
      obtain ⟨l0, q0, rfl⟩ := more_of_below hB
      clear hO hH hB
      unfold zeroV at *
      go_wp2_with (with_reducible refine Calls.mono (HD.out _ g c' HB.out HH.out) ?_; rintro e w2 ⟨rfl, hb⟩; obtain ⟨l, q, rfl⟩ := more_of_below hb; clear hb)
      all_goals go_returns
      exact ⟨rfl, (by repeat (first | with_reducible exact Below.refl _ _ | with_reducible assumption | with_reducible refine below_more' ?_ (by go_size) | with_reducible refine bel_alloc ?_ _ (by go_size) | with_reducible refine Below.drew ?_ | with_reducible refine Below.setCell ?_ (by go_size) _ | with_reducible refine below_drewN ?_ _))⟩
end Go.Proofs.YtpcihefhagipmaaGreatDoor
