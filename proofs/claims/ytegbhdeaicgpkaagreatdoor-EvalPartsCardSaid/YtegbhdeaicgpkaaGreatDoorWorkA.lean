/-
  What the rounds of Eval.Work keep: the table, all else that stood, the stack of arguments. Plain laws.
-/
import Derived.Test.YtegbhdeaicgpkaaGreatDoorSrc
namespace Go.Proofs.YtegbhdeaicgpkaaGreatDoor
open Go Go.RowKit

/-- The cells of an argument that is a value. -/
def gCells (v : V) : List Value := [.bool false, .int .i64 v.tag, .int .i64 v.num, .string v.str, .bool v.is, .int .i64 v.code, .int .i64 0, .int .i64 0, .int .i64 0, .int .i64 0, .slice none 0 0]
theorem gCells_length (v : V) : (gCells v).length = 11 := rfl
theorem gCells_one (v : V) : ∀ u ∈ gCells v, u.oneCell' = true := by
  intro u hu
  simp only [gCells, List.mem_cons, List.not_mem_nil, or_false] at hu
  rcases hu with rfl | rfl | rfl | rfl | rfl | rfl | rfl | rfl | rfl | rfl | rfl <;> rfl
def vstep (ents : List Ent) (G : Int → V → V → V) (l : List V) (x : Nd) : List V := if x.kind = 4 then l.take (l.length - 2) ++ [G x.op (l.getD (l.length - 2) V0) (l.getD (l.length - 1) V0)] else if x.kind = 2 then l ++ [findE ents x.row x.col] else l ++ [x.v]
def stkV (ents : List Ent) (G : Int → V → V → V) (xs : List Nd) : List V := xs.foldl (vstep ents G) []
theorem stkV_take (ents : List Ent) (G : Int → V → V → V) (xs : List Nd) (j : Nat) (x : Nd) (hx : xs[j]? = some x) : stkV ents G (xs.take (j + 1)) = vstep ents G (stkV ents G (xs.take j)) x := by
  rw [stk_take1 hx]
  simp [stkV]
theorem vstep_op (ents : List Ent) (G : Int → V → V → V) (pre : List V) (a b : V) (k : Int) : vstep ents G (pre ++ [a, b]) (Nd.opn k) = pre ++ [G k a b] := by
  have e : (pre ++ [a, b]).length = pre.length + 2 := by simp
  unfold vstep
  rw [if_pos (show (Nd.opn k).kind = 4 from rfl), e]
  simp [Nd.opn]
theorem vstep_len (ents : List Ent) (G : Int → V → V → V) (l : List V) (m : List (Int × Int)) (x : Nd) (h : l.length = m.length) : (vstep ents G l x).length = (pstep m x).length := by
  unfold vstep pstep
  split
  · simp [h]
  · split <;> simp [h]
theorem stkV_len (ents : List Ent) (G : Int → V → V → V) (xs : List Nd) (j : Nat) : (stkV ents G (xs.take j)).length = (stkP (xs.take j)).length := by
  induction j with
  | zero => simp [stkP, stkV]
  | succ j ih =>
    cases hx : xs[j]? with
    | none =>
      have e : xs.take (j + 1) = xs.take j := by rw [List.take_add_one, hx]; simp
      rw [e, ih]
    | some x =>
      rw [stkP_take xs j x hx, stkV_take ents G xs j x hx]
      exact vstep_len ents G _ _ x ih
theorem info_G : (Tryz.prog.info? 42).map (fun i => (i.zero, i.size, i.bytes)) = some (some (.agg #[.bool false, .int .i64 0, .int .i64 0, .string ⟨#[]⟩, .bool false, .int .i64 0, .int .i64 0, .int .i64 0, .int .i64 0, .int .i64 0, .slice none 0 0]), 11, 112) := by kernel_rfl

/-- What the rounds keep: the table, all else that stood, the stack of arguments. -/
structure WRel (w1 wr : World) (B pt pc : Nat) (ents : List Ent) (ask0 : Value) (na : Nat) (t7 : Value) (l : List V) (j : Nat) (asked : Value) (na' : Nat) (L : List Value) : Prop where
  src : Src wr B pt pc ents asked na' L
  le : na' ≤ na + j
  kept : Kept2 pt ask0.ownBlock w1 wr
  row : asked.ownBlock = ask0.ownBlock ∨ ∀ k, asked.ownBlock = some k → w1.heap.size ≤ k
  own : wr.ownsRow w1.heap.size 42 11 t7 l.length (flatC gCells l)
  ne : ∀ k, asked.ownBlock = some k → t7.ownBlock ≠ some k
theorem WRel.cell {w1 wr : World} {B pt pc : Nat} {ents : List Ent} {ask0 : Value} {na : Nat} {t7 : Value} {l : List V} {j : Nat} {asked : Value} {na' : Nat} {L : List Value} (h : WRel w1 wr B pt pc ents ask0 na t7 l j asked na' L)
    {b i : Nat} {u : Value} (hp : b ≠ pt) (hr : ask0.ownBlock ≠ some b) (hc : w1.cell? ⟨b, i, none⟩ = some u) : wr.cell? ⟨b, i, none⟩ = some u := h.kept.cell hp hr hc

theorem own_kept2 {w w' : World} {base e size n pt : Nat} {v : Value} {xs : List Value} {row : Option Nat} (h : w.ownsRow base e size v n xs) (hk : Kept2 pt row w w') (hp : pt < base) (hr : ∀ k, row = some k → v.ownBlock ≠ some k) : w'.ownsRow base e size v n xs := by
  refine ⟨h.1, ?_⟩
  rcases h.2 with h2 | ⟨g, cap, cur, e1, hg, hh, rest⟩
  · exact .inl h2
  · refine .inr ⟨g, cap, cur, e1, hg, (hk.2.2.2.2 g (Array.getElem?_eq_some_iff.1 hh).1 (by omega) (fun e => hr g e (by rw [e1]; rfl))).trans hh, rest⟩
theorem Src.grown {w w' : World} {B pt pc : Nat} {ents : List Ent} {asked : Value} {na : Nat} {L : List Value} {row : Option Nat} (h : Src w B pt pc ents asked na L) (hg : w.grownBy w' row) (h1 : ∀ k, row = some k → B ≤ k) (h3 : ∀ k, asked.ownBlock = some k → row ≠ some k) : Src w' B pt pc ents asked na L := by
  have hle := h.le
  have hlt := h.lt
  have hlc := h.lc
  have hb1 : w'.heap[pt]? = w.heap[pt]? := hg.block pt (by omega) (fun e => by have := h1 pt e.symm; omega)
  have hb2 : w'.heap[pc]? = w.heap[pc]? := hg.block pc (by omega) (fun e => by have := h1 pc e.symm; omega)
  refine ⟨hlt, hlc, h.ne, Nat.le_trans hle hg.size, fun j u hu => (World.cell?_of_block (a := ⟨pt, j, none⟩) hb1).trans (h.at0 j u hu), (World.frozen?_of_block (a := ⟨pt, 1, none⟩) hb1).trans h.fr, fun j u hu => (World.cell?_of_block (a := ⟨pc, j, none⟩) hb2).trans (h.en j u hu), h.own.kept hg ?_⟩
  cases ho : asked.ownBlock with
  | none => exact .inl rfl
  | some k => exact .inr (fun e => h3 k ho e.symm)
theorem Kept2.grown {pt : Nat} {row row' : Option Nat} {w w1 w2 : World} (h : Kept2 pt row w w1) (hg : w1.grownBy w2 row') (hr : ∀ k, row' = some k → w.heap.size ≤ k) : Kept2 pt row w w2 :=
  ⟨hg.os.trans h.1, hg.tape.trans h.2.1, hg.output.trans h.2.2.1, Nat.le_trans h.2.2.2.1 hg.size, fun k hk hp hn => (hg.block k (Nat.lt_of_lt_of_le hk h.2.2.2.1) (fun e => by have := hr k e.symm; omega)).trans (h.2.2.2.2 k hk hp hn)⟩
/-- A value is pushed (or put in the place of two), behind a call that left all that stood, or but for the table. -/
theorem WRel.push {w1 wr X w3 : World} {B pt pc : Nat} {ents : List Ent} {ask0 : Value} {na : Nat} {t7 : Value} {l l' : List V} {j : Nat} {asked : Value} {na' : Nat} {L : List Value} {g n cap j' : Nat} (h : WRel w1 wr B pt pc ents ask0 na t7 l j asked na' L) (hj : j ≤ j') (hB1 : B ≤ w1.heap.size)
    (hb : Below wr.heap.size wr X) (hgrow : X.grownBy w3 t7.ownBlock) (hown : w3.ownsRow w1.heap.size 42 11 (.slice (some ⟨g, 0, none⟩) n cap) l'.length (flatC gCells l')) (hat : t7.ownBlock = some g ∨ g = X.heap.size) :
    WRel w1 w3 B pt pc ents ask0 na (.slice (some ⟨g, 0, none⟩) n cap) l' j' asked na' L := by
  have hrow : ∀ k, t7.ownBlock = some k → w1.heap.size ≤ k := fun k hk => (h.own.lt k hk).1
  have hs := hb.size
  refine ⟨(h.src.below hb).grown hgrow (fun k hk => Nat.le_trans hB1 (hrow k hk)) h.ne, Nat.le_trans h.le (by omega), (h.kept.below hb).grown hgrow hrow, h.row, hown, fun k hk e => ?_⟩
  have hk2 := (h.src.own.lt k hk).2
  have : g = k := by simpa [Value.ownBlock] using e
  subst this
  rcases hat with h1 | h1
  · exact h.ne g hk h1
  · omega

/-- Behind a question to the table. -/
theorem WRel.turn {w1 wr X w3 : World} {B pt pc : Nat} {ents : List Ent} {ask0 : Value} {na : Nat} {t7 : Value} {l : List V} {j : Nat} {asked asked2 : Value} {na' : Nat} {L L2 : List Value} (h : WRel w1 wr B pt pc ents ask0 na t7 l j asked na' L) (hB1 : B ≤ w1.heap.size)
    (hb : Below wr.heap.size wr X) (hs : Src w3 B pt pc ents asked2 (na' + 1) L2) (hk : Kept2 pt asked.ownBlock X w3) (hw : asked2.ownBlock = asked.ownBlock ∨ ∀ k, asked2.ownBlock = some k → X.heap.size ≤ k) : WRel w1 w3 B pt pc ents ask0 na t7 l (j + 1) asked2 (na' + 1) L2 := by
  have s1 := hb.size
  have s2 := h.kept.2.2.2.1
  have hp : pt < w1.heap.size := Nat.lt_of_lt_of_le h.src.lt hB1
  refine ⟨hs, Nat.add_le_add_right h.le 1, (h.kept.below hb).trans hk h.row, ?_, own_kept2 (stk_below h.own hb) hk hp h.ne, fun k hk2 e => ?_⟩
  · rcases hw with hw | hw
    · rw [hw]; exact h.row
    · exact .inr fun k hk2 => by have := hw k hk2; omega
  · rcases hw with hw | hw
    · exact h.ne k (hw ▸ hk2) e
    · have h1 := hw k hk2
      have h2 := (h.own.lt k e).2
      omega

/-- A value stored into five cells. -/
def set5 (w : World) (g o : Nat) (v : V) : World := ((((w.setCell ⟨g, o, none⟩ (.int .i64 v.tag)).setCell ⟨g, o + 1, none⟩ (.int .i64 v.num)).setCell ⟨g, o + 2, none⟩ (.string v.str)).setCell ⟨g, o + 3, none⟩ (.bool v.is)).setCell ⟨g, o + 4, none⟩ (.int .i64 v.code)
theorem set_at (p l : List Value) (i : Nat) (u : Value) (n : Nat) (h : n = p.length + i) : (p ++ l).set n u = p ++ l.set i u := by
  subst h
  rw [List.set_append_right _ _ (by omega)]
  congr 2
  omega
theorem own_set5 {w : World} {base g cap : Nat} {e : TypeId} (pre : List V) (a b v : V) (h : w.ownsRow base e 11 (.slice (some ⟨g, 0, none⟩) (pre.length + 2) cap) (pre.length + 2) (flatC gCells (pre ++ [a, b]))) :
    (set5 w g (pre.length * 11 + 1) v).ownsRow base e 11 (.slice (some ⟨g, 0, none⟩) (pre.length + 2) cap) (pre.length + 2) (flatC gCells (pre ++ [v, b])) := by
  have h1 := (h.stored (pre.length * 11 + 1) (.int .i64 v.tag)).1
  have h2 := (h1.stored (pre.length * 11 + 1 + 1) (.int .i64 v.num)).1
  have h3 := (h2.stored (pre.length * 11 + 1 + 2) (.string v.str)).1
  have h4 := (h3.stored (pre.length * 11 + 1 + 3) (.bool v.is)).1
  have h5 := (h4.stored (pre.length * 11 + 1 + 4) (.int .i64 v.code)).1
  have hp : (flatC gCells pre).length = pre.length * 11 := flatC_length gCells 11 gCells_length pre
  have e1 : flatC gCells (pre ++ [a, b]) = flatC gCells pre ++ (gCells a ++ gCells b) := by rw [flatC_append]; simp [flatC]
  have e2 : flatC gCells (pre ++ [v, b]) = flatC gCells pre ++ (gCells v ++ gCells b) := by rw [flatC_append]; simp [flatC]
  rw [e1, set_at _ _ 1 _ _ (by omega), set_at _ _ 2 _ _ (by omega), set_at _ _ 3 _ _ (by omega), set_at _ _ 4 _ _ (by omega), set_at _ _ 5 _ _ (by omega)] at h5
  rw [e2]
  exact h5
theorem grown_set5 (w : World) (g o : Nat) (v : V) : w.grownBy (set5 w g o v) (some g) := by
  have ht : ∀ {a b c : World}, a.grownBy b (some g) → b.grownBy c (some g) → a.grownBy c (some g) := fun h1 h2 =>
    ⟨h2.os.trans h1.os, h2.tape.trans h1.tape, h2.output.trans h1.output, Nat.le_trans h1.size h2.size, fun k hk hne => (h2.block k (Nat.lt_of_lt_of_le hk h1.size) hne).trans (h1.block k hk hne)⟩
  exact ht (ht (ht (ht (grown_set _ _ _ _) (grown_set _ _ _ _)) (grown_set _ _ _ _)) (grown_set _ _ _ _)) (grown_set _ _ _ _)
theorem set5_size (w : World) (g o : Nat) (v : V) : (set5 w g o v).heap.size = w.heap.size := by simp [set5]
/-- An operation: two values give one. -/
theorem WRel.op {w1 wr wx : World} {B pt pc : Nat} {ents : List Ent} {ask0 : Value} {na : Nat} {g cc : Nat} {pre : List V} {a b v : V} {j : Nat} {asked : Value} {na' : Nat} {L : List Value} (h : WRel w1 wr B pt pc ents ask0 na (.slice (some ⟨g, 0, none⟩) (pre.length + 2) cc) (pre ++ [a, b]) j asked na' L) (hB1 : B ≤ w1.heap.size)
    (hb : Below wr.heap.size (set5 wr g (pre.length * 11 + 1) v) wx) : WRel w1 wx B pt pc ents ask0 na (.slice (some ⟨g, 0, none⟩) (pre.length + 1) cc) (pre ++ [v]) (j + 1) asked na' L := by
  have hl : (pre ++ [a, b]).length = pre.length + 2 := by simp
  have hown := h.own
  rw [hl] at hown
  have hrow : ∀ k, some g = some k → w1.heap.size ≤ k := fun k hk => by cases hk; exact (hown.lt g rfl).1
  have hg := grown_set5 wr g (pre.length * 11 + 1) v
  rw [← set5_size wr g (pre.length * 11 + 1) v] at hb
  have h5 := own_set5 pre a b v hown
  have e2 : flatC gCells (pre ++ [v, b]) = flatC gCells (pre ++ [v]) ++ gCells b := by rw [flatC_append, flatC_append]; simp [flatC]
  rw [e2] at h5
  have h6 := ownsRow_pop (n := pre.length + 1) (by rw [flatC_length gCells 11 gCells_length]; simp) h5
  refine ⟨(h.src.grown hg (fun k hk => Nat.le_trans hB1 (hrow k hk)) h.ne).below hb, Nat.le_trans h.le (by omega), (h.kept.grown hg hrow).below hb, h.row, ?_, h.ne⟩
  have e3 : (pre ++ [v]).length = pre.length + 1 := by simp
  rw [e3]
  exact stk_below h6 hb
end Go.Proofs.YtegbhdeaicgpkaaGreatDoor
