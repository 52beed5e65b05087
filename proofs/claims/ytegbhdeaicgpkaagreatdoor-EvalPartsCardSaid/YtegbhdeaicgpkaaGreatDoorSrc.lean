/-
  The law's table as a source: (*table).Cell: what it answers, and what it leaves.
-/
import Derived.Test.YtegbhdeaicgpkaaGreatDoorEvalB
import Derived.Deep.AppendLies
import Derived.Deep.RegionLaw
namespace Go.Proofs.YtegbhdeaicgpkaaGreatDoor
open Go Go.RowKit

/-- An entry of the table. -/
structure Ent where
  row : Int
  col : Int
  v : V
def Ent.cells (e : Ent) : List Value := [.int .i64 e.row, .int .i64 e.col, .int .i64 e.v.tag, .int .i64 e.v.num, .string e.v.str, .bool e.v.is, .int .i64 e.v.code]
theorem Ent.cells_length (e : Ent) : e.cells.length = 7 := rfl
def findE (l : List Ent) (r c : Int) : V := match l.find? (fun e => e.row == r && e.col == c) with
  | some e => e.v
  | none => V0
def askCells (r c : Int) : List Value := [.bool false, .int .i64 0, .int .i64 r, .int .i64 c, .int .i64 0, .int .i64 0, .int .i64 0, .int .i64 0]
theorem askCells_one (r c : Int) : ∀ u ∈ askCells r c, u.oneCell' = true := by
  intro u hu
  simp only [askCells, List.mem_cons, List.not_mem_nil, or_false] at hu
  rcases hu with rfl | rfl | rfl | rfl | rfl | rfl | rfl | rfl <;> rfl
theorem info_K : (Tryz.prog.info? 360).map (fun i => (i.zero, i.size, i.bytes)) = some (some (.agg #[.bool false, .int .i64 0, .int .i64 0, .int .i64 0, .int .i64 0, .int .i64 0, .int .i64 0, .int .i64 0]), 8, 64) := by kernel_rfl
/-- The table stands in the world: its block pt, its entries in block pc, what it was asked in a row of its own. -/
structure Src (w : World) (B pt pc : Nat) (ents : List Ent) (asked : Value) (na : Nat) (L : List Value) : Prop where
  lt : pt < B
  lc : pc < B
  ne : pt ≠ pc
  le : B ≤ w.heap.size
  at0 : AtB w pt [.slice (some ⟨pc, 0, none⟩) ents.length ents.length, asked]
  fr : w.frozen? ⟨pt, 1, none⟩ = false
  en : AtB w pc (flatC Ent.cells ents)
  own : w.ownsRow B 360 8 asked na L
/-- All that stood is as it was, but for block pt and one row. -/
def Kept2 (pt : Nat) (row : Option Nat) (w w' : World) : Prop := w'.os = w.os ∧ w'.tape = w.tape ∧ w'.output = w.output ∧ w.heap.size ≤ w'.heap.size ∧ ∀ k, k < w.heap.size → k ≠ pt → row ≠ some k → w'.heap[k]? = w.heap[k]?
theorem Kept2.of_below {pt : Nat} {row : Option Nat} {w w' : World} (h : Below w.heap.size w w') : Kept2 pt row w w' := ⟨h.os, h.tape, h.output, h.size, fun k hk _ _ => h.block k hk⟩
theorem Kept2.trans {pt : Nat} {row row1 : Option Nat} {w w1 w2 : World} (h : Kept2 pt row w w1) (h2 : Kept2 pt row1 w1 w2) (hr : row1 = row ∨ ∀ k, row1 = some k → w.heap.size ≤ k) : Kept2 pt row w w2 := by
  refine ⟨h2.1.trans h.1, h2.2.1.trans h.2.1, h2.2.2.1.trans h.2.2.1, Nat.le_trans h.2.2.2.1 h2.2.2.2.1, fun k hk hp hn => ?_⟩
  have h3 := h.2.2.2.1
  rw [h2.2.2.2.2 k (by omega) hp (by
    rcases hr with rfl | hr
    · exact hn
    · intro e
      have := hr k e
      omega), h.2.2.2.2 k hk hp hn]
theorem Kept2.cell {pt : Nat} {row : Option Nat} {w w' : World} (h : Kept2 pt row w w') {b i : Nat} {v : Value} (hp : b ≠ pt) (hr : row ≠ some b) (hc : w.cell? ⟨b, i, none⟩ = some v) : w'.cell? ⟨b, i, none⟩ = some v :=
  (World.cell?_of_block (a := ⟨b, i, none⟩) (h.2.2.2.2 b (World.block_lt_of_cell? w _ hc) hp hr)).trans hc
theorem Src.below {w w' : World} {B pt pc : Nat} {ents : List Ent} {asked : Value} {na : Nat} {L : List Value} (h : Src w B pt pc ents asked na L) (hb : Below w.heap.size w w') : Src w' B pt pc ents asked na L :=
  ⟨h.lt, h.lc, h.ne, Nat.le_trans h.le hb.size, h.at0.below hb, (World.frozen?_of_block (a := ⟨pt, 1, none⟩) (hb.block pt (by have := h.lt; have := h.le; omega))).trans h.fr, h.en.below hb, stk_below h.own hb⟩
theorem frozen_allocJ {w : World} {p i : Nat} (h : w.frozen? ⟨p, i, none⟩ = false) (hp : p < w.heap.size) (o : Obj) : (w.alloc o).frozen? ⟨p, i, none⟩ = false :=
  (World.frozen?_of_block (a := ⟨p, i, none⟩) (heap_alloc_old w o hp)).trans h
theorem alz (w : World) (o : Obj) : (w.alloc o).heap.size = w.heap.size + 1 := by simp
theorem drz (w : World) : w.drew.heap.size = w.heap.size := rfl
theorem frozen_drewJ {w : World} {p i : Nat} (h : w.frozen? ⟨p, i, none⟩ = false) : w.drew.frozen? ⟨p, i, none⟩ = false := h
theorem eq_cells (r c r' c' : Int) (w : World) : (binOp .eql 44 (.agg #[.int .i64 r, .int .i64 c]) (.agg #[.int .i64 r', .int .i64 c'])).run Tryz.prog w = .ok (.bool (r == r' && c == c')) w := by
  rw [run_eql_struct]
  go_simp
  by_cases h1 : r = r' <;> by_cases h2 : c = c' <;> simp [h1, h2]

/-- Behind the note of what was asked: the table stands, and the rest but for the row. -/
theorem Src.noted {w X w1 : World} {B pt pc : Nat} {ents : List Ent} {asked : Value} {na g cap : Nat} {L L' : List Value} (hs : Src w B pt pc ents asked na L) (hX : Below w.heap.size w X) (hgrow : X.grownBy w1 asked.ownBlock)
    (hown : w1.ownsRow B 360 8 (.slice (some ⟨g, 0, none⟩) (na + 1) cap) (na + 1) L') (hat : asked.ownBlock = some g ∨ g = X.heap.size) :
    Src (w1.setCell ⟨pt, 1, none⟩ (.slice (some ⟨g, 0, none⟩) (na + 1) cap)) B pt pc ents (.slice (some ⟨g, 0, none⟩) (na + 1) cap) (na + 1) L' ∧ Kept2 pt asked.ownBlock w (w1.setCell ⟨pt, 1, none⟩ (.slice (some ⟨g, 0, none⟩) (na + 1) cap)) ∧
      ((Value.slice (some ⟨g, 0, none⟩) (na + 1) cap).ownBlock = asked.ownBlock ∨ ∀ k, (Value.slice (some ⟨g, 0, none⟩) (na + 1) cap).ownBlock = some k → w.heap.size ≤ k) ∧
      ∀ k, k < X.heap.size → w.heap.size ≤ k → asked.ownBlock ≠ some k → (w1.setCell ⟨pt, 1, none⟩ (.slice (some ⟨g, 0, none⟩) (na + 1) cap)).heap[k]? = X.heap[k]? := by
  have hle := hs.le
  have hlt := hs.lt
  have hlc := hs.lc
  have hsz := hX.size
  have hrow : ∀ k, asked.ownBlock = some k → B ≤ k := fun k hk => (hs.own.lt k hk).1
  have hnp : some pt ≠ asked.ownBlock := fun e => by have := hrow pt e.symm; omega
  have hnc : some pc ≠ asked.ownBlock := fun e => by have := hrow pc e.symm; omega
  have hk1 : ∀ k, k < X.heap.size → some k ≠ asked.ownBlock → w1.heap[k]? = X.heap[k]? := hgrow.block
  have hset : ∀ (u : Value) k, k ≠ pt → (w1.setCell ⟨pt, 1, none⟩ u).heap[k]? = w1.heap[k]? := fun u k hk => heap_setCell_other w1 ⟨pt, 1, none⟩ k u hk
  have c0 := hs.at0 0 _ rfl
  have c1 := hs.at0 1 _ rfl
  have hpt1 : w1.heap[pt]? = w.heap[pt]? := (hk1 pt (by omega) hnp).trans (hX.block pt (by omega))
  have d0 := (World.cell?_of_block (a := ⟨pt, 0, none⟩) hpt1).trans c0
  have d1 := (World.cell?_of_block (a := ⟨pt, 1, none⟩) hpt1).trans c1
  have df := (World.frozen?_of_block (a := ⟨pt, 1, none⟩) hpt1).trans hs.fr
  have hpc1 : w1.heap[pc]? = w.heap[pc]? := (hk1 pc (by omega) hnc).trans (hX.block pc (by omega))
  refine ⟨⟨hlt, hlc, hs.ne, ?_, ?_, ?_, ?_, ownsRow_setCell_below hown (by simpa using hlt) _⟩, ⟨?_, ?_, ?_, ?_, ?_⟩, ?_, ?_⟩
  · have := hgrow.size
    simp
    omega
  · intro j u hu
    match j, hu with
    | 0, hu =>
      cases hu
      exact (World.cell?_setCell_other _ _ _ _ (by simp)).trans d0
    | 1, hu =>
      cases hu
      exact World.cell?_setCell_same _ _ _ d1
    | _ + 2, hu => cases hu
  · simpa using df
  · intro j u hu
    have h1 := hs.en j u hu
    exact (World.cell?_of_block (a := ⟨pc, j, none⟩) ((hset _ pc (Ne.symm hs.ne)).trans hpc1)).trans h1
  · exact hgrow.os.trans hX.os
  · exact hgrow.tape.trans hX.tape
  · exact hgrow.output.trans hX.output
  · have := hgrow.size
    simp
    omega
  · intro k hk hp hr
    exact (hset _ k hp).trans ((hk1 k (by omega) (fun e => hr e.symm)).trans (hX.block k hk))
  · rcases hat with h | h
    · exact .inl h.symm
    · right
      intro k hk
      have : k = g := by simpa [Value.ownBlock] using hk.symm
      omega
  · intro k hk hk2 hr
    exact (hset _ k (by omega)).trans (hk1 k hk (fun e => hr e.symm))

theorem grown_set (w : World) (b i : Nat) (u : Value) : w.grownBy (w.setCell ⟨b, i, none⟩ u) (some b) := ⟨rfl, rfl, rfl, by simp, fun k _ hk => heap_setCell_other w ⟨b, i, none⟩ k u (fun e => hk (by simp [e]))⟩
theorem Src.set {w : World} {B pt pc : Nat} {ents : List Ent} {asked : Value} {na : Nat} {L : List Value} (h : Src w B pt pc ents asked na L) {b i : Nat} {u : Value} (h1 : b ≠ pt) (h2 : b ≠ pc) (h3 : asked.ownBlock ≠ some b) : Src (w.setCell ⟨b, i, none⟩ u) B pt pc ents asked na L :=
  ⟨h.lt, h.lc, h.ne, by simpa using h.le, fun j v hv => (World.cell?_setCell_other _ _ _ _ (by simp [h1])).trans (h.at0 j v hv), by simpa using h.fr, fun j v hv => (World.cell?_setCell_other _ _ _ _ (by simp [h2])).trans (h.en j v hv), h.own.kept (grown_set w b i u) (.inr h3)⟩
theorem Kept2.set {pt : Nat} {row : Option Nat} {w w' : World} (h : Kept2 pt row w w') {b i : Nat} {u : Value} (hb : w.heap.size ≤ b) : Kept2 pt row w (w'.setCell ⟨b, i, none⟩ u) :=
  ⟨h.1, h.2.1, h.2.2.1, by simpa using h.2.2.2.1, fun k hk hp hr => (heap_setCell_other w' ⟨b, i, none⟩ k u (by show k ≠ b; omega)).trans (h.2.2.2.2 k hk hp hr)⟩
theorem Kept2.below {pt : Nat} {row : Option Nat} {w w1 w2 : World} (h : Kept2 pt row w w1) (hb : Below w1.heap.size w1 w2) : Kept2 pt row w w2 := h.trans (Kept2.of_below (row := row) hb) (.inl rfl)
theorem cell_set_some {W : World} {a : Addr} {u : Value} (h : (W.cell? a).isSome = true) : (W.setCell a u).cell? a = some u := by
  obtain ⟨v, hv⟩ := Option.isSome_iff_exists.1 h
  exact World.cell?_setCell_same _ _ _ hv
theorem find_take {α : Type} (f : α → Bool) (l : List α) (j : Nat) (e : α) (he : l[j]? = some e) (hn : (l.take j).find? f = none) (hf : f e = false) : (l.take (j + 1)).find? f = none := by
  rw [stk_take1 he, List.find?_append, hn]
  simp [hf]
theorem find_hit {α : Type} (f : α → Bool) (l : List α) (j : Nat) (e : α) (he : l[j]? = some e) (hn : (l.take j).find? f = none) (hf : f e = true) : l.find? f = some e := by
  have h1 : l = l.take (j + 1) ++ l.drop (j + 1) := (List.take_append_drop _ _).symm
  rw [h1, List.find?_append, stk_take1 he, List.find?_append, hn]
  simp [hf]

set_option maxRecDepth 100000 in
set_option maxHeartbeats 4000000 in
theorem table_Cell (r c : Int) (w : World) (B pt pc : Nat) (ents : List Ent) (asked : Value) (na : Nat) (L : List Value) (hs : Src w B pt pc ents asked na L) (hn : ents.length ≤ 1000000) (ha : na ≤ 1000000) :
    Calls Tryz.prog 355 #[.pointer (some ⟨pt, 0, none⟩), .agg #[.int .i64 r, .int .i64 c]] w fun e w' => e = .returned (Value.agg #[Value.int .i64 (findE ents r c).tag, Value.int .i64 (findE ents r c).num, Value.string (findE ents r c).str, Value.bool (findE ents r c).is, Value.int .i64 (findE ents r c).code]) ∧ ∃ asked' L', Src w' B pt pc ents asked' (na + 1) L' ∧ Kept2 pt asked.ownBlock w w' ∧ (asked'.ownBlock = asked.ownBlock ∨ ∀ k, asked'.ownBlock = some k → w.heap.size ≤ k) := by
  have HS := Lib.hid hs
  have p0 := hs.at0 0 _ rfl
  have p1 := hs.at0 1 _ rfl
  have pf := hs.fr
  have lp := cell_ltJ p0
  obtain ⟨i0, hi, hz0, hz1, hz2⟩ := info_parts info_K
  have HNE := Lib.hid (show some pt ≠ asked.ownBlock from fun e => by have := (hs.own.lt pt e.symm).1; have := hs.lt; omega)
  have HNE2 := Lib.hid (show some w.heap.size ≠ asked.ownBlock from fun e => by have := (hs.own.lt _ e.symm).2; omega)
  have HNE3 := Lib.hid (show some (w.heap.size + 1) ≠ asked.ownBlock from fun e => by have := (hs.own.lt _ e.symm).2; omega)
  have nw := World.new_ne w ⟨pt, 1, none⟩ p1
  have lp1 : pt < w.heap.size + 1 := by omega
  have lp2 : pt < w.heap.size + 1 + 1 := by omega
  have lp3 : pt < w.heap.size + 1 + 1 + 1 := by omega
  clear hs
  go_enter Tryz.func355, Tryz.ntmps355
  go_wp2_with fail
  go_cut [14] (fun s14 wx => ∃ asked' L', Src wx B pt pc ents asked' (na + 1) L' ∧ Kept2 pt asked.ownBlock w wx ∧ (asked'.ownBlock = asked.ownBlock ∨ ∀ k, asked'.ownBlock = some k → w.heap.size ≤ k) ∧ (∀ k, asked'.ownBlock = some k → k ≠ w.heap.size + 1) ∧ wx.heap[w.heap.size]? = some (.cells #[.int .i64 r, .int .i64 c] 44 (0, 0)) ∧ wx.heap[w.heap.size + 1]? = some (.cells #[.int .i64 0, .int .i64 0, .string ⟨#[]⟩, .bool false, .int .i64 0] 29 (0, 0)))
  case first =>
    go_region_law
      ((refine step_append_lies _ (by rfl) _ _ _ (by rfl) B 360 i0 _ 8 64 Tryz.underlying57 hi hz0 hz1 hz2 (by rfl) (by decide) asked na L (by rfl) (stk_below HS.out.own (by repeat (first | with_reducible exact Below.refl _ _ | with_reducible assumption | with_reducible refine below_more' ?_ (by go_size) | with_reducible refine bel_alloc ?_ _ (by go_size) | with_reducible refine Below.drew ?_ | with_reducible refine Below.setCell ?_ (by go_size) _ | with_reducible refine below_drewN ?_ _))) _ 1 1 (askCells r c) (by rfl) (by rfl) (by exact fun i u hu => stk_fresh (by simp) i u hu) (askCells_one r c) (by decide) (by simp only [maxLen]; omega) (by omega) (by have := HS.out.le; simp; omega) _ rfl ?_; intro g cap w1 hown1 hgrow hat hlt; have q1 : w1.cell? ⟨pt, 1, none⟩ = some asked := (hgrow.cell_far _ (by go_size) HNE.out).trans (by (repeat (first | with_reducible assumption | with_reducible refine cell_drewJ ?_ | with_reducible refine cell_allocJ ?_ _ | with_reducible refine frozen_drewJ ?_ | with_reducible refine frozen_allocJ ?_ (by go_size) _))); have qf : w1.frozen? ⟨pt, 1, none⟩ = false := (hgrow.frozen_far _ (by go_size) HNE.out).trans (by (repeat (first | with_reducible assumption | with_reducible refine cell_drewJ ?_ | with_reducible refine cell_allocJ ?_ _ | with_reducible refine frozen_drewJ ?_ | with_reducible refine frozen_allocJ ?_ (by go_size) _)))))
    all_goals
      go_wp2_with fail
      go_meet
      obtain ⟨n1, n2, n3, n4⟩ := Src.noted HS.out (by repeat (first | with_reducible exact Below.refl _ _ | with_reducible assumption | with_reducible refine bel_alloc ?_ _ (by go_size) | with_reducible refine Below.drew ?_)) hgrow hown1 hat
      exact ⟨_, _, n1, n2, n3, (fun k hk => by
          have hg : k = g := by simpa [Value.ownBlock] using hk.symm
          subst hg
          rcases hat with h | h
          · have := (HS.out.own.lt _ h).2; omega
          · simp at h; omega),
        (n4 _ (by (repeat (first | rw [alz] | rw [drz])); omega) (Nat.le_refl _) (fun e => HNE2.out e.symm)).trans ((heap_alloc_old _ _ (by (repeat (first | rw [alz] | rw [drz])); omega)).trans ((heap_alloc_old _ _ (by (repeat (first | rw [alz] | rw [drz])); omega)).trans (heap_alloc_new w _))),
        (n4 _ (by (repeat (first | rw [alz] | rw [drz])); omega) (by omega) (fun e => HNE3.out e.symm)).trans ((heap_alloc_old _ _ (by (repeat (first | rw [alz] | rw [drz])); omega)).trans (by have h := heap_alloc_new (w.alloc (.cells #[.int .i64 r, .int .i64 c] 44)) (.cells #[.int .i64 0, .int .i64 0, .string ⟨#[]⟩, .bool false, .int .i64 0] 29); simpa using h))⟩
  case rest =>
    obtain ⟨asked', L', hs', hk, hw', hno, hbx, hbv⟩ := hcut
    have bx0 := cell_of_row wc w.heap.size 0 _ _ (0, 0) hbx
    have bx1 := cell_of_row wc w.heap.size 1 _ _ (0, 0) hbx
    have bv : ∀ i u, (#[.int .i64 0, .int .i64 0, .string ⟨#[]⟩, .bool false, .int .i64 0] : Array Value)[i]? = some u → wc.cell? ⟨w.heap.size + 1, i, none⟩ = some u := fun i u hu => (cell_of_row wc (w.heap.size + 1) i _ _ (0, 0) hbv).trans hu
    have bf : ∀ i, wc.frozen? ⟨w.heap.size + 1, i, none⟩ = false := fun i => frozen_of_row wc (w.heap.size + 1) i _ _ hbv
    have lbv : w.heap.size + 1 < wc.heap.size := cell_ltJ (bv 0 _ rfl)
    have KS := Lib.hid hs'
    have KK := Lib.hid hk
    have KW := Lib.hid hw'
    have KN := Lib.hid hno
    have BX0 := Lib.hid (show wc.cell? ⟨w.heap.size, 0, none⟩ = some (.int .i64 r) from bx0)
    have BX1 := Lib.hid (show wc.cell? ⟨w.heap.size, 1, none⟩ = some (.int .i64 c) from bx1)
    have BV := Lib.hid bv
    have BF := Lib.hid bf
    have hBS := Lib.hid HS.out.le
    have hltp := HS.out.lt
    have hltc := HS.out.lc
    clear hs' hk hw' hno hbx hbv bx0 bx1 bv bf p0 p1 pf
    go_wp2
    go_loopw [5] (fun t5 wr => ∃ j : Nat, j ≤ ents.length ∧ t5 = .int .i64 j ∧ Below wc.heap.size wc wr ∧ (ents.take j).find? (fun e => e.row == r && e.col == c) = none) (fun t _ => ents.length - (intOf t).toNat)
    case atStart => exact ⟨0, Nat.zero_le _, rfl, Below.refl _ _, by simp⟩
    case round =>
      obtain ⟨j, hj, rfl, hB, hno⟩ := hrel
      have q0 : wr.cell? ⟨pt, 0, none⟩ = some (.slice (some ⟨pc, 0, none⟩) ents.length ents.length) := cell_below (KS.out.at0 0 _ rfl) hB
      have q1 := cell_below BX0.out hB
      have q2 := cell_below BX1.out hB
      have v0 := cell_below (BV.out 0 _ rfl) hB
      have v1 := cell_below (BV.out 1 _ rfl) hB
      have v2 := cell_below (BV.out 2 _ rfl) hB
      have v3 := cell_below (BV.out 3 _ rfl) hB
      have v4 := cell_below (BV.out 4 _ rfl) hB
      have vf : ∀ i, wr.frozen? ⟨w.heap.size + 1, i, none⟩ = false := fun i => (World.frozen?_of_block (a := ⟨w.heap.size + 1, i, none⟩) (hB.block _ lbv)).trans (BF.out i)
      have f0 := vf 0
      have f1 := vf 1
      have f2 := vf 2
      have f3 := vf 3
      have f4 := vf 4
      clear vf
      have HB := Lib.hid hB
      have HNO := Lib.hid hno
      have lq := cell_ltJ q0
      have lv := cell_ltJ v0
      by_cases hlt : j < ents.length
      · obtain ⟨x, hx⟩ : ∃ x, ents[j]? = some x := ⟨_, List.getElem?_eq_getElem hlt⟩
        have hc : ∀ i u, x.cells[i]? = some u → wr.cell? ⟨pc, j * 7 + i, none⟩ = some u := fun i u hu => cell_below (KS.out.en _ u (flatC_at Ent.cells 7 Ent.cells_length ents j x hx i u hu)) hB
        have e0 : wr.cell? ⟨pc, j * 7, none⟩ = some (.int .i64 x.row) := hc 0 _ rfl
        have e1 : wr.cell? ⟨pc, j * 7 + 1, none⟩ = some (.int .i64 x.col) := hc 1 _ rfl
        have e2 : wr.cell? ⟨pc, j * 7 + 2, none⟩ = some (.int .i64 x.v.tag) := hc 2 _ rfl
        have e3 : wr.cell? ⟨pc, j * 7 + 3, none⟩ = some (.int .i64 x.v.num) := hc 3 _ rfl
        have e4 : wr.cell? ⟨pc, j * 7 + 4, none⟩ = some (.string x.v.str) := hc 4 _ rfl
        have e5 : wr.cell? ⟨pc, j * 7 + 5, none⟩ = some (.bool x.v.is) := hc 5 _ rfl
        have e6 : wr.cell? ⟨pc, j * 7 + 6, none⟩ = some (.int .i64 x.v.code) := hc 6 _ rfl
        have he := eq_cells x.row x.col r c
        have HX := Lib.hid hx
        have i1 : (0 : Int) ≤ (j : Int) := by omega
        have i2 : (j : Int) < (ents.length : Int) := by omega
        clear hc hx hB hno
        obtain ⟨q, hq⟩ : ∃ q, q = (x.row == r && x.col == c) := ⟨_, rfl⟩
        rw [← hq] at he
        have HQ := Lib.hid hq
        clear hq
        cases q with
        | true =>
          go_wp2
          go_quiet (fail)
          all_goals go_wp2
          all_goals
            have hB := HB.out
            have ha1 : w.heap.size + 1 ≠ pt := by have := hBS.out; omega
            have ha2 : w.heap.size + 1 ≠ pc := by have := hBS.out; omega
            have ha3 : asked'.ownBlock ≠ some (w.heap.size + 1) := fun e => KN.out _ e rfl
            have ha4 : w.heap.size ≤ w.heap.size + 1 := by omega
            have hfe : findE ents r c = x.v := by unfold findE; rw [find_hit _ ents j x HX.out HNO.out HQ.out.symm]
            exact bodyPost_ret (by simp [results, Tryz.results355, go_sem, cell_set_some, v0, v1, v2, v3, v4]; try rfl) rfl ⟨by rw [hfe], asked', L', ((((((KS.out.below (by repeat (first | with_reducible exact Below.refl _ _ | with_reducible assumption | with_reducible refine below_more' ?_ (by go_size) | with_reducible refine bel_alloc ?_ _ (by go_size) | with_reducible refine Below.drew ?_ | with_reducible refine Below.setCell ?_ (by go_size) _ | with_reducible refine below_drewN ?_ _))).set ha1 ha2 ha3).set ha1 ha2 ha3).set ha1 ha2 ha3).set ha1 ha2 ha3).set ha1 ha2 ha3), ((((((KK.out.below (by repeat (first | with_reducible exact Below.refl _ _ | with_reducible assumption | with_reducible refine below_more' ?_ (by go_size) | with_reducible refine bel_alloc ?_ _ (by go_size) | with_reducible refine Below.drew ?_ | with_reducible refine Below.setCell ?_ (by go_size) _ | with_reducible refine below_drewN ?_ _))).set ha4).set ha4).set ha4).set ha4).set ha4), KW.out⟩
        | false =>
          go_wp2
          go_quiet (fail)
          all_goals go_wp2
          all_goals
            have hB := HB.out
            exact ⟨⟨j + 1, by omega, by go_num, (by repeat (first | with_reducible exact Below.refl _ _ | with_reducible assumption | with_reducible refine below_more' ?_ (by go_size) | with_reducible refine bel_alloc ?_ _ (by go_size) | with_reducible refine Below.drew ?_ | with_reducible refine Below.setCell ?_ (by go_size) _ | with_reducible refine below_drewN ?_ _)), find_take _ ents j x HX.out HNO.out HQ.out.symm⟩, by simp [intOf]; omega⟩
      · obtain rfl : j = ents.length := by omega
        go_wp2
        have hB := HB.out
        have ha1 : w.heap.size + 1 ≠ pt := by have := hBS.out; omega
        have ha2 : w.heap.size + 1 ≠ pc := by have := hBS.out; omega
        have ha3 : asked'.ownBlock ≠ some (w.heap.size + 1) := fun e => KN.out _ e rfl
        have ha4 : w.heap.size ≤ w.heap.size + 1 := by omega
        have hfe : findE ents r c = V0 := by
          have h := HNO.out
          rw [List.take_of_length_le (Nat.le_refl _)] at h
          unfold findE
          rw [h]
        exact bodyPost_ret (by simp [results, Tryz.results355, go_sem, cell_set_some, v0, v1, v2, v3, v4]; try rfl) rfl ⟨by rw [hfe]; rfl, asked', L', ((((((KS.out.below (by repeat (first | with_reducible exact Below.refl _ _ | with_reducible assumption | with_reducible refine below_more' ?_ (by go_size) | with_reducible refine bel_alloc ?_ _ (by go_size) | with_reducible refine Below.drew ?_ | with_reducible refine Below.setCell ?_ (by go_size) _ | with_reducible refine below_drewN ?_ _))).set ha1 ha2 ha3).set ha1 ha2 ha3).set ha1 ha2 ha3).set ha1 ha2 ha3).set ha1 ha2 ha3), ((((((KK.out.below (by repeat (first | with_reducible exact Below.refl _ _ | with_reducible assumption | with_reducible refine below_more' ?_ (by go_size) | with_reducible refine bel_alloc ?_ _ (by go_size) | with_reducible refine Below.drew ?_ | with_reducible refine Below.setCell ?_ (by go_size) _ | with_reducible refine below_drewN ?_ _))).set ha4).set ha4).set ha4).set ha4).set ha4), KW.out⟩
end Go.Proofs.YtegbhdeaicgpkaaGreatDoor
