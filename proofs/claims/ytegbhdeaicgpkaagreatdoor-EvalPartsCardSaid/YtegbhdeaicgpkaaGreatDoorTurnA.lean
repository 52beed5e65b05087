/-
  A formula of two cells and one operation, worked out over the law's table; a row of values in a block. What the law EvalTurned's rounds lean on.
-/
import Derived.Test.YtegbhdeaicgpkaaGreatDoorTwo
import Derived.Test.YtegbhdeaicgpkaaGreatDoorLives
namespace Go.Proofs.YtegbhdeaicgpkaaGreatDoor
open Go Go.RowKit

theorem Pow10.kept {w w' : World} {pt : Nat} {row : Option Nat} (h : Pow10 w) (hk : Kept2 pt row w w') (h1 : 3 ≠ pt) (h2 : row ≠ some 3) : Pow10 w' :=
  h.same (hk.2.2.2.2 _ h.lt h1 h2)
def pairN (r1 c1 r2 c2 k : Int) : List Nd := [Nd.cell r1 c1, Nd.cell r2 c2, Nd.opn k]
theorem pair_stk (r1 c1 r2 c2 k : Int) (h3 : 3 ≤ k) (h13 : k ≤ 13) : ∃ b, stkP (pairN r1 c1 r2 c2 k) = [(0, b)] := by
  have h : k = 3 ∨ k = 4 ∨ k = 5 ∨ k = 6 ∨ k = 7 ∨ k = 8 ∨ k = 9 ∨ k = 10 ∨ k = 11 ∨ k = 12 ∨ k = 13 := by omega
  rcases h with rfl | rfl | rfl | rfl | rfl | rfl | rfl | rfl | rfl | rfl | rfl
  all_goals exact ⟨_, rfl⟩
def Cell1 (r c : Int) : Prop := 1 ≤ r ∧ r ≤ 4096 ∧ 1 ≤ c ∧ c ≤ 256
theorem pair_wf (r1 c1 r2 c2 k : Int) (h1 : Cell1 r1 c1) (h2 : Cell1 r2 c2) (h3 : 3 ≤ k) (h13 : k ≤ 13) : Wf (pairN r1 c1 r2 c2 k) := by
  intro j x hx
  match j, hx with
  | 0, hx =>
    cases hx
    exact ⟨.inl ⟨r1, c1, rfl, h1⟩, fun h => absurd h (by show (2 : Int) ≠ 4; decide), fun p hp => by simp [stkP] at hp⟩
  | 1, hx =>
    cases hx
    refine ⟨.inl ⟨r2, c2, rfl, h2⟩, fun h => absurd h (by show (2 : Int) ≠ 4; decide), fun p hp => ?_⟩
    have e : stkP ((pairN r1 c1 r2 c2 k).take 1) = [(0, 7)] := rfl
    rw [e] at hp
    simp at hp
    subst hp
    decide
  | 2, hx =>
    cases hx
    have e : stkP ((pairN r1 c1 r2 c2 k).take 2) = [(0, 7), (0, 7)] := rfl
    refine ⟨.inr (.inr ⟨k, rfl, h3, h13⟩), fun _ => by rw [e]; decide, fun p hp => ?_⟩
    rw [e] at hp
    simp at hp
    subst hp
    decide
  | _ + 3, hx => cases hx
theorem pair_val (ents : List Ent) (G : Int → V → V → V) (r1 c1 r2 c2 k : Int) : stkV ents G (pairN r1 c1 r2 c2 k) = [G k (findE ents r1 c1) (findE ents r2 c2)] := rfl
theorem pair_val2 (ents : List Ent) (G : Int → V → V → V) (r1 c1 r2 c2 k : Int) : stkV ents G ((pairN r1 c1 r2 c2 k).take 2) = [] ++ [findE ents r1 c1, findE ents r2 c2] := rfl
theorem work_pair (pe : Nat) (tp : Addr) (text : Int) (ents : List Ent) (r1 c1 r2 c2 k : Int) (h1 : Cell1 r1 c1) (h2 : Cell1 r2 c2) (h3 : 3 ≤ k) (h13 : k ≤ 13) (hx : Fits (findE ents r1 c1)) (hy : Fits (findE ents r2 c2)) (hn : ents.length ≤ 1000000)
    (bn c B0 B pt pc : Nat) (asked : Value) (na : Nat) (L : List Value) (w : World) (hr : Reads w B0 15 (some ⟨bn, 0, none⟩) 3 (flatC Nd.cells (pairN r1 c1 r2 c2 k))) (hE : AtB w pe (evCells tp text)) (hsrc : Src w B pt pc ents asked na L) (ha : na ≤ 900000)
    (hbn : bn ≠ pt) (hbn2 : asked.ownBlock ≠ some bn) (hpe : pe ≠ pt) (hpe2 : asked.ownBlock ≠ some pe) (ht : Pow10 w) (hg : 3 ≠ pt) (hg2 : asked.ownBlock ≠ some 3) :
    Calls Tryz.prog 22 #[.pointer (some ⟨pe, 0, none⟩), .agg #[.slice (some ⟨bn, 0, none⟩) 3 c], .iface 56 (.pointer (some ⟨pt, 0, none⟩))] w fun e w' => e = .returned (Value.agg #[Value.int .i64 (twoG text k (findE ents r1 c1) (findE ents r2 c2)).tag, Value.int .i64 (twoG text k (findE ents r1 c1) (findE ents r2 c2)).num, Value.string (twoG text k (findE ents r1 c1) (findE ents r2 c2)).str, Value.bool (twoG text k (findE ents r1 c1) (findE ents r2 c2)).is, Value.int .i64 (twoG text k (findE ents r1 c1) (findE ents r2 c2)).code]) ∧ ∃ asked' na' L', Src w' B pt pc ents asked' na' L' ∧ na' ≤ na + 3 ∧ Kept2 pt asked.ownBlock w w' ∧ (asked'.ownBlock = asked.ownBlock ∨ ∀ k, asked'.ownBlock = some k → w.heap.size ≤ k) := by
  obtain ⟨b, hb⟩ := pair_stk r1 c1 r2 c2 k h3 h13
  refine eval_WorkK pe tp text (twoG text) (pairN r1 c1 r2 c2 k) bn 0 3 c B0 B pt pc ents asked na L w hr (by decide) (by decide) (pair_wf r1 c1 r2 c2 k h1 h2 h3 h13) 0 b hb (by decide) _ (pair_val ents _ r1 c1 r2 c2 k) hE hsrc hn ha hbn hbn2 hpe hpe2 ?_ ?_
  · intro j x hx h
    match j, hx with
    | 0, hx => cases hx; exact absurd h (by show (2 : Int) ≠ 1; decide)
    | 1, hx => cases hx; exact absurd h (by show (2 : Int) ≠ 1; decide)
    | 2, hx => cases hx; exact absurd h (by show (4 : Int) ≠ 1; decide)
    | _ + 3, hx => cases hx
  · intro j k' pre a b hj hs w' hE' hk
    match j, hj with
    | 0, hj => exact absurd (congrArg (fun o => o.map Nd.kind) hj) (by simp [pairN, Nd.cell, Nd.opn])
    | 1, hj => exact absurd (congrArg (fun o => o.map Nd.kind) hj) (by simp [pairN, Nd.cell, Nd.opn])
    | 2, hj =>
      have ek : k = k' := by
        have := congrArg (fun o => o.map Nd.op) hj
        simpa [pairN, Nd.opn] using this
      subst ek
      rw [pair_val2] at hs
      have h4 := (List.append_inj' hs rfl).2
      have e1 : findE ents r1 c1 = a := by injection h4
      have e2 : findE ents r2 c2 = b := by injection h4 with _ h5; injection h5
      rw [e1] at hx
      rw [e2] at hy
      exact eval_two pe tp text k h3 h13 a b hx hy w' hE' (ht.kept hk hg hg2)
    | _ + 3, hj => cases hj

/-- The cells of a value. -/
def vc (v : V) : List Value := [.int .i64 v.tag, .int .i64 v.num, .string v.str, .bool v.is, .int .i64 v.code]
/-- A row of fourteen values in a block. -/
structure VRow (w : World) (p : Nat) (f : Nat → V) : Prop where
  cell : ∀ (j i : Nat) (u : Value), j < 14 → (vc (f j))[i]? = some u → w.cell? ⟨p, j * 5 + i, none⟩ = some u
  fr : ∀ i, w.frozen? ⟨p, i, none⟩ = false
  lt : p < w.heap.size
theorem VRow.same {w w' : World} {p : Nat} {f : Nat → V} (h : VRow w p f) (hb : w'.heap[p]? = w.heap[p]?) : VRow w' p f :=
  ⟨fun j i u hj hu => (World.cell?_of_block (a := ⟨p, _, none⟩) hb).trans (h.cell j i u hj hu), fun i => (World.frozen?_of_block (a := ⟨p, i, none⟩) hb).trans (h.fr i), by
    have h1 : p < w.heap.size := h.lt
    rw [Array.getElem?_eq_getElem h1] at hb
    exact (Array.getElem?_eq_some_iff.1 hb).1⟩
theorem VRow.below {w w' : World} {p : Nat} {f : Nat → V} (h : VRow w p f) (hb : Below w.heap.size w w') : VRow w' p f := h.same (hb.block p h.lt)
theorem VRow.kept {w w' : World} {p pt : Nat} {row : Option Nat} {f : Nat → V} (h : VRow w p f) (hk : Kept2 pt row w w') (h1 : p ≠ pt) (h2 : row ≠ some p) : VRow w' p f := h.same (hk.2.2.2.2 p h.lt h1 h2)
theorem set5_block {w : World} {g o k : Nat} {v : V} (h : k ≠ g) : (set5 w g o v).heap[k]? = w.heap[k]? := by
  unfold set5
  repeat rw [heap_setCell_other _ _ _ _ (by exact h)]
theorem set5_cell_other {w : World} {g o i : Nat} {v : V} (h : i < o ∨ o + 4 < i) : (set5 w g o v).cell? ⟨g, i, none⟩ = w.cell? ⟨g, i, none⟩ := by
  unfold set5
  repeat rw [World.cell?_setCell_other _ _ _ _ (by intro e; injection e with e1 e2; omega)]
theorem set5_frozen {w : World} {g o : Nat} {v : V} (a : Addr) : (set5 w g o v).frozen? a = w.frozen? a := by simp [set5]
theorem vc_lt {v : V} {i : Nat} {u : Value} (h : (vc v)[i]? = some u) : i < 5 := (List.getElem?_eq_some_iff.1 h).1
theorem vc_some (v : V) (i : Nat) (h : i < 5) : ∃ u, (vc v)[i]? = some u := ⟨_, List.getElem?_eq_getElem (show i < (vc v).length from h)⟩
theorem set5_cell {w : World} {g o i : Nat} {v : V} {u : Value} (h : ∀ i, i < 5 → (w.cell? ⟨g, o + i, none⟩).isSome = true) (hu : (vc v)[i]? = some u) : (set5 w g o v).cell? ⟨g, o + i, none⟩ = some u := by
  have ne : ∀ a b : Nat, a ≠ b → (⟨g, a, none⟩ : Addr) ≠ ⟨g, b, none⟩ := fun a b hab e => by injection e with e1 e2; exact hab e2
  have h0 := h 0 (by decide)
  have h1 := h 1 (by decide)
  have h2 := h 2 (by decide)
  have h3 := h 3 (by decide)
  have h4 := h 4 (by decide)
  rw [Nat.add_zero] at h0
  unfold set5
  match i, hu with
  | 0, hu =>
    cases hu
    rw [Nat.add_zero, World.cell?_setCell_other _ _ _ _ (ne _ _ (by omega)), World.cell?_setCell_other _ _ _ _ (ne _ _ (by omega)), World.cell?_setCell_other _ _ _ _ (ne _ _ (by omega)), World.cell?_setCell_other _ _ _ _ (ne _ _ (by omega))]
    exact cell_set_some h0
  | 1, hu =>
    cases hu
    rw [World.cell?_setCell_other _ _ _ _ (ne _ _ (by omega)), World.cell?_setCell_other _ _ _ _ (ne _ _ (by omega)), World.cell?_setCell_other _ _ _ _ (ne _ _ (by omega))]
    exact cell_set_some (by rw [World.cell?_setCell_other _ _ _ _ (ne _ _ (by omega))]; exact h1)
  | 2, hu =>
    cases hu
    rw [World.cell?_setCell_other _ _ _ _ (ne _ _ (by omega)), World.cell?_setCell_other _ _ _ _ (ne _ _ (by omega))]
    exact cell_set_some (by rw [World.cell?_setCell_other _ _ _ _ (ne _ _ (by omega)), World.cell?_setCell_other _ _ _ _ (ne _ _ (by omega))]; exact h2)
  | 3, hu =>
    cases hu
    rw [World.cell?_setCell_other _ _ _ _ (ne _ _ (by omega))]
    exact cell_set_some (by rw [World.cell?_setCell_other _ _ _ _ (ne _ _ (by omega)), World.cell?_setCell_other _ _ _ _ (ne _ _ (by omega)), World.cell?_setCell_other _ _ _ _ (ne _ _ (by omega))]; exact h3)
  | 4, hu =>
    cases hu
    exact cell_set_some (by rw [World.cell?_setCell_other _ _ _ _ (ne _ _ (by omega)), World.cell?_setCell_other _ _ _ _ (ne _ _ (by omega)), World.cell?_setCell_other _ _ _ _ (ne _ _ (by omega)), World.cell?_setCell_other _ _ _ _ (ne _ _ (by omega))]; exact h4)
  | _ + 5, hu => cases hu
theorem VRow.set {w : World} {p k : Nat} {f : Nat → V} (h : VRow w p f) (v : V) (hk : k < 14) : VRow (set5 w p (k * 5) v) p (fun j => if j = k then v else f j) := by
  refine ⟨fun j i u hj hu => ?_, fun i => (set5_frozen _).trans (h.fr i), by rw [set5_size]; exact h.lt⟩
  have hi := vc_lt hu
  by_cases hjk : j = k
  · subst hjk
    rw [if_pos rfl] at hu
    refine set5_cell (fun i hi => ?_) hu
    obtain ⟨z, hz⟩ := vc_some (f j) i hi
    rw [h.cell j i z hj hz]
    rfl
  · rw [if_neg hjk] at hu
    rw [set5_cell_other (by omega)]
    exact h.cell j i u hj hu
def Z70 : Array Value := (flatC vc (List.replicate 14 V0)).toArray
theorem make_row (w : World) : (Instr.makeSlice 221 (.int .i64 14) (.int .i64 14)).run Tryz.prog w = .ok (.slice (some ⟨w.heap.size, 0, none⟩) 14 14) (w.alloc (.cells Z70 29)) := by kernel_rfl
theorem VRow.allocI {w : World} {p : Nat} {f : Nat → V} (h : VRow w p f) (o : Obj) : VRow (w.alloc o) p f := h.same (heap_alloc_old w o h.lt)
theorem VRow.new {w : World} {p : Nat} (hp : p = w.heap.size) : VRow (w.alloc (.cells Z70 29)) p (fun _ => V0) := by
  subst hp
  refine ⟨fun j i u hj hu => ?_, fun i => frozen_of_row _ _ _ _ _ (heap_alloc_new w _), by simp⟩
  have h1 := flatC_at vc 5 (fun _ => rfl) (List.replicate 14 V0) j V0 (by rw [List.getElem?_replicate, if_pos hj]) i u hu
  rw [cell_of_row _ w.heap.size (j * 5 + i) Z70 _ (0, 0) (heap_alloc_new w _)]
  unfold Z70
  simpa using h1
/-- Where the blocks lie: all are the call's own, and no two of those that are written are one. -/
structure TLie (w0 : World) (B p6 p7 pe pv pu pt pc : Nat) : Prop where
  h0 : w0.heap.size ≤ pt ∧ w0.heap.size ≤ pv ∧ w0.heap.size ≤ pu ∧ w0.heap.size ≤ B
  hB : p6 < B ∧ p7 < B ∧ pe < B ∧ pv < B ∧ pu < B
  ht : p6 ≠ pt ∧ p7 ≠ pt ∧ pe ≠ pt ∧ pv ≠ pt ∧ pu ≠ pt
  hv : p6 ≠ pv ∧ p7 ≠ pv ∧ pe ≠ pv ∧ pu ≠ pv ∧ pc ≠ pv
  hu : p6 ≠ pu ∧ p7 ≠ pu ∧ pe ≠ pu ∧ pc ≠ pu
  hp : 3 < w0.heap.size
/-- What the rounds have laid into a row. -/
def rowF (x y : V) (k : Nat) (j : Nat) : V := if 3 ≤ j ∧ j < k then twoG 64 j x y else V0
theorem rowF_zero (x y : V) : rowF x y 3 = fun _ => V0 := by
  funext j
  exact if_neg (by omega)
theorem rowF_succ (x y : V) (k : Nat) (h3 : 3 ≤ k) : (fun j => if j = k then twoG 64 k x y else rowF x y k j) = rowF x y (k + 1) := by
  funext j
  unfold rowF
  by_cases hj : j = k
  · subst hj
    rw [if_pos rfl, if_pos (by omega)]
  · rw [if_neg hj]
    by_cases h : 3 ≤ j ∧ j < k
    · rw [if_pos h, if_pos (by omega)]
    · rw [if_neg h, if_neg (by omega)]
/-- What the law's rounds know: the two places, the worker, the table, the two rows. -/
structure TRel (w0 wr : World) (B p6 p7 pe pv pu pt pc : Nat) (tp : Addr) (x y : V) (f g : Nat → V) (asked : Value) (na : Nat) (L : List Value) : Prop where
  base : Below w0.heap.size w0 wr
  one : AtB wr p6 [.int .i64 1, .int .i64 1]
  two : AtB wr p7 [.int .i64 2, .int .i64 1]
  ev : AtB wr pe (evCells tp 64)
  src : Src wr B pt pc [⟨1, 1, x⟩, ⟨2, 1, y⟩] asked na L
  rv : VRow wr pv f
  ru : VRow wr pu g
  pw : Pow10 wr
section
variable {w0 wr w1 : World} {B p6 p7 pe pv pu pt pc : Nat} {tp : Addr} {x y : V} {f g : Nat → V} {asked : Value} {na : Nat} {L : List Value}
theorem TRel.below (h : TRel w0 wr B p6 p7 pe pv pu pt pc tp x y f g asked na L) (hb : Below wr.heap.size wr w1) : TRel w0 w1 B p6 p7 pe pv pu pt pc tp x y f g asked na L :=
  ⟨h.base.trans (hb.mono h.base.size), h.one.below hb, h.two.below hb, h.ev.below hb, h.src.below hb, h.rv.below hb, h.ru.below hb, h.pw.below hb (Nat.le_refl _)⟩
theorem TRel.row (h : TRel w0 wr B p6 p7 pe pv pu pt pc tp x y f g asked na L) {k : Nat} (hk : k < B) : asked.ownBlock ≠ some k := fun e => by
  have := (h.src.own.lt k e).1
  omega
theorem atB_kept {w w' : World} {p pt : Nat} {row : Option Nat} {l : List Value} (h : AtB w p l) (hk : Kept2 pt row w w') (h1 : p ≠ pt) (h2 : row ≠ some p) : AtB w' p l := fun j u hu => hk.cell h1 h2 (h j u hu)
theorem atB_same {w w' : World} {p : Nat} {l : List Value} (h : AtB w p l) (hb : w'.heap[p]? = w.heap[p]?) : AtB w' p l := fun j u hu => (World.cell?_of_block (a := ⟨p, j, none⟩) hb).trans (h j u hu)
/-- Behind a call of the worker. -/
theorem TRel.turn (h : TRel w0 wr B p6 p7 pe pv pu pt pc tp x y f g asked na L) (hl : TLie w0 B p6 p7 pe pv pu pt pc) {asked' : Value} {na' : Nat} {L' : List Value} (hs : Src w1 B pt pc [⟨1, 1, x⟩, ⟨2, 1, y⟩] asked' na' L') (hk : Kept2 pt asked.ownBlock wr w1) : TRel w0 w1 B p6 p7 pe pv pu pt pc tp x y f g asked' na' L' := by
  obtain ⟨a1, a2, a3, a4⟩ := hl.h0
  obtain ⟨b1, b2, b3, b4, b5⟩ := hl.hB
  obtain ⟨c1, c2, c3, c4, c5⟩ := hl.ht
  have hp := hl.hp
  exact ⟨hk.base h.base (Nat.le_refl _) a1 (fun k hk2 => Nat.le_trans a4 (h.src.own.lt k hk2).1), atB_kept h.one hk c1 (h.row b1), atB_kept h.two hk c2 (h.row b2), atB_kept h.ev hk c3 (h.row b3), hs, h.rv.kept hk c4 (h.row b4), h.ru.kept hk c5 (h.row b5), h.pw.kept hk (by omega) (h.row (by omega))⟩
theorem Src.set5 (h : Src wr B pt pc [⟨1, 1, x⟩, ⟨2, 1, y⟩] asked na L) {p o : Nat} {v : V} (h1 : p ≠ pt) (h2 : p ≠ pc) (h3 : asked.ownBlock ≠ some p) : Src (set5 wr p o v) B pt pc [⟨1, 1, x⟩, ⟨2, 1, y⟩] asked na L := by
  unfold Proofs.YtegbhdeaicgpkaaGreatDoor.set5
  exact ((((h.set h1 h2 h3).set h1 h2 h3).set h1 h2 h3).set h1 h2 h3).set h1 h2 h3
theorem below_set5 {n : Nat} {w w' : World} (h : Below n w w') (hn : n ≤ w.heap.size) {p o : Nat} {v : V} (hp : n ≤ p) : Below n w (set5 w' p o v) := h.grown (grown_set5 w' p o v) (Nat.le_trans hn h.size) (fun k hk => by cases hk; exact hp)
/-- A value of the first row. -/
theorem TRel.setv (h : TRel w0 wr B p6 p7 pe pv pu pt pc tp x y f g asked na L) (hl : TLie w0 B p6 p7 pe pv pu pt pc) (k : Nat) (v : V) (hk : k < 14) : TRel w0 (set5 wr pv (k * 5) v) B p6 p7 pe pv pu pt pc tp x y (fun j => if j = k then v else f j) g asked na L := by
  obtain ⟨a1, a2, a3, a4⟩ := hl.h0
  obtain ⟨b1, b2, b3, b4, b5⟩ := hl.hB
  obtain ⟨c1, c2, c3, c4, c5⟩ := hl.ht
  obtain ⟨d1, d2, d3, d4, d5⟩ := hl.hv
  have hp := hl.hp
  exact ⟨below_set5 h.base (Nat.le_refl _) a2, atB_same h.one (set5_block d1), atB_same h.two (set5_block d2), atB_same h.ev (set5_block d3), h.src.set5 c4 (fun e => d5 e.symm) (h.row b4), h.rv.set v hk, h.ru.same (set5_block d4), h.pw.same (set5_block (by omega))⟩
/-- A value of the second row. -/
theorem TRel.setu (h : TRel w0 wr B p6 p7 pe pv pu pt pc tp x y f g asked na L) (hl : TLie w0 B p6 p7 pe pv pu pt pc) (k : Nat) (v : V) (hk : k < 14) : TRel w0 (set5 wr pu (k * 5) v) B p6 p7 pe pv pu pt pc tp x y f (fun j => if j = k then v else g j) asked na L := by
  obtain ⟨a1, a2, a3, a4⟩ := hl.h0
  obtain ⟨b1, b2, b3, b4, b5⟩ := hl.hB
  obtain ⟨c1, c2, c3, c4, c5⟩ := hl.ht
  obtain ⟨d1, d2, d3, d4, d5⟩ := hl.hv
  obtain ⟨e1, e2, e3, e4⟩ := hl.hu
  have hp := hl.hp
  exact ⟨below_set5 h.base (Nat.le_refl _) a3, atB_same h.one (set5_block e1), atB_same h.two (set5_block e2), atB_same h.ev (set5_block e3), h.src.set5 c5 (fun e => e4 e.symm) (h.row b5), h.rv.same (set5_block (fun e => d4 e.symm)), h.ru.set v hk, h.pw.same (set5_block (by omega))⟩
/-- The worker at one of the two formulas. -/
theorem TRel.work (h : TRel w0 wr B p6 p7 pe pv pu pt pc tp x y f g asked na L) (hl : TLie w0 B p6 p7 pe pv pu pt pc) {X : World} (hb : Below wr.heap.size wr X) (r1 r2 k : Int) (hr1 : Cell1 r1 1) (hr2 : Cell1 r2 1) (h3 : 3 ≤ k) (h13 : k ≤ 13)
    (a b : V) (ha : findE [⟨1, 1, x⟩, ⟨2, 1, y⟩] r1 1 = a) (hb' : findE [⟨1, 1, x⟩, ⟨2, 1, y⟩] r2 1 = b) (hx : Fits a) (hy : Fits b) (r : V) (hr : twoG 64 k a b = r) (bn c B0 : Nat) (hbn : wr.heap.size ≤ bn) (hrd : Reads X B0 15 (some ⟨bn, 0, none⟩) 3 (flatC Nd.cells (pairN r1 1 r2 1 k))) (hna : na ≤ 900000) :
    Calls Tryz.prog 22 #[.pointer (some ⟨pe, 0, none⟩), .agg #[.slice (some ⟨bn, 0, none⟩) 3 c], .iface 56 (.pointer (some ⟨pt, 0, none⟩))] X fun e w' => e = .returned (Value.agg #[Value.int .i64 (r).tag, Value.int .i64 (r).num, Value.string (r).str, Value.bool (r).is, Value.int .i64 (r).code]) ∧ ∃ asked' na' L', na' ≤ na + 3 ∧ TRel w0 w' B p6 p7 pe pv pu pt pc tp x y f g asked' na' L' ∧ Kept2 pt asked.ownBlock X w' := by
  have hX := h.below hb
  have hle := h.src.le
  obtain ⟨a1, a2, a3, a4⟩ := hl.h0
  obtain ⟨b1, b2, b3, b4, b5⟩ := hl.hB
  obtain ⟨c1, c2, c3, c4, c5⟩ := hl.ht
  have hp := hl.hp
  have hlt := h.src.lt
  have hc := work_pair pe tp 64 [⟨1, 1, x⟩, ⟨2, 1, y⟩] r1 1 r2 1 k hr1 hr2 h3 h13 (by rw [ha]; exact hx) (by rw [hb']; exact hy) (show 2 ≤ 1000000 by decide) bn c B0 B pt pc asked na L X hrd hX.ev hX.src hna (by omega) (fun e => by have := (h.src.own.lt bn e).2; omega) c3 (h.row b3) hX.pw (by omega) (h.row (by omega))
  rw [ha, hb', hr] at hc
  refine hc.mono ?_
  rintro e w2 ⟨rfl, ask2, na2, L2, hs, hn2, hk, _⟩
  exact ⟨rfl, ask2, na2, L2, hn2, hX.turn hl hs hk, hk⟩
end
/-- The cells of a node that is a cell; of one that is an operation. -/
def nodeC (r : Int) : List Value := Nd.cells (Nd.cell r 1)
def nodeO (k : Int) : List Value := Nd.cells (Nd.opn k)
theorem VRow.at {w : World} {p : Nat} {f : Nat → V} (h : VRow w p f) (j i n : Nat) {v : V} {u : Value} (hf : f j = v) (hu : (vc v)[i]? = some u) (hn : j * 5 + i = n) (hj : j < 14) : w.cell? ⟨p, n, none⟩ = some u := by
  subst hn
  subst hf
  exact h.cell j i u hj hu
theorem rowF_at (x y : V) (k j : Nat) (hk : k = 14) (h3 : 3 ≤ j) (hj : j < 14) : rowF x y k j = twoG 64 j x y := by
  subst hk
  exact if_pos ⟨h3, hj⟩
theorem two_cmp (op : Int) (h8 : 8 ≤ op) (a b : V) (a4 : a.tag ≠ 4) (b4 : b.tag ≠ 4) : twoG 64 op a b = truthG (relX op (cmpV a b)) := by
  unfold twoG
  rw [if_neg (by omega), if_neg (by omega)]
  unfold comparedG
  rw [if_neg a4, if_neg b4]
theorem two_cmp_turn (op op' : Int) (h8 : 8 ≤ op) (h8' : 8 ≤ op') (h : (op = 8 ∧ op' = 8) ∨ (op = 9 ∧ op' = 9) ∨ (op = 10 ∧ op' = 12) ∨ (op = 12 ∧ op' = 10) ∨ (op = 11 ∧ op' = 13) ∨ (op = 13 ∧ op' = 11)) (a b : V) (a4 : a.tag ≠ 4) (b4 : b.tag ≠ 4) : twoG 64 op' b a = truthG (relX op (cmpV a b)) := by
  rw [two_cmp op' h8' b a b4 a4, cmpV_turn a b, rel_turn op op' (cmpV a b) h]
theorem two_sum_turn (op : Int) (hop : op = 3 ∨ op = 5) (a b : V) (ha : mayG a = true) (hb : mayG b = true) (a4 : a.tag ≠ 4) (b4 : b.tag ≠ 4) : twoG 64 op b a = twoG 64 op a b := by
  unfold twoG
  rw [if_pos (by omega), if_pos (by omega)]
  exact (sums_turn op hop a b ha hb a4 b4).symm
theorem ne_self (r : V) (w : World) : (binOp .neq 29 (Value.agg #[Value.int .i64 (r).tag, Value.int .i64 (r).num, Value.string (r).str, Value.bool (r).is, Value.int .i64 (r).code]) (Value.agg #[Value.int .i64 (r).tag, Value.int .i64 (r).num, Value.string (r).str, Value.bool (r).is, Value.int .i64 (r).code])).run Tryz.prog w = .ok (.bool false) w := by
  rw [neqV]
  simp [eqB]
theorem ne_truth (b : Bool) (w : World) : (binOp .neq 29 (.agg #[.int .i64 3, .int .i64 0, .string ⟨#[]⟩, .bool b, .int .i64 0]) (.agg #[.int .i64 3, .int .i64 0, .string ⟨#[]⟩, .bool b, .int .i64 0])).run Tryz.prog w = .ok (.bool false) w := by
  rw [neqV]
  simp [eqB]
/-- How many of three have been met ahead of an operation. -/
def cntT (b8 b10 b12 : Bool) (j : Int) : Int := (if 8 < j then truthI b8 else 0) + (if 10 < j then truthI b10 else 0) + (if 12 < j then truthI b12 else 0)
theorem cntT_le (b8 b10 b12 : Bool) (j : Int) : 0 ≤ cntT b8 b10 b12 j ∧ cntT b8 b10 b12 j ≤ 3 := by
  have h1 := truthI_nonneg b8
  have h2 := truthI_nonneg b10
  have h3 := truthI_nonneg b12
  have h4 := truthI_le b8
  have h5 := truthI_le b10
  have h6 := truthI_le b12
  unfold cntT
  split <;> split <;> split <;> omega
theorem cnt_one (k : Int) : cntT (relX 8 k) (relX 10 k) (relX 12 k) 14 = 1 := by
  rcases Int.lt_trichotomy k 0 with h | h | h
  · have a1 : (k == 0) = false := by simp; omega
    have a2 : decide (k < 0) = true := by simp; omega
    have a3 : decide (0 < k) = false := by simp; omega
    simp [cntT, relX, truthI, a1, a2, a3]
  · subst h
    decide
  · have a1 : (k == 0) = false := by simp; omega
    have a2 : decide (k < 0) = false := by simp; omega
    have a3 : decide (0 < k) = true := by simp; omega
    simp [cntT, relX, truthI, a1, a2, a3]
theorem rel_ne (k : Int) : relX 9 k = !relX 8 k ∧ relX 11 k = !relX 12 k ∧ relX 13 k = !relX 10 k := by
  refine ⟨rfl, ?_, ?_⟩
  · show decide (k ≤ 0) = !decide (0 < k)
    by_cases h : 0 < k
    · rw [decide_eq_true h, decide_eq_false (by omega)]
      rfl
    · rw [decide_eq_false h, decide_eq_true (by omega)]
      rfl
  · show decide (0 ≤ k) = !decide (k < 0)
    by_cases h : k < 0
    · rw [decide_eq_true h, decide_eq_false (by omega)]
      rfl
    · rw [decide_eq_false h, decide_eq_true (by omega)]
      rfl
end Go.Proofs.YtegbhdeaicgpkaaGreatDoor
