/-
  What the law EvalParts leans on: pick; the formula of an operation that is compared with itself.
-/
import Derived.Test.YtegbhdeaicgpkaaGreatDoorTurnA
namespace Go.Proofs.YtegbhdeaicgpkaaGreatDoor
open Go Go.RowKit

/-- One of n. -/
def pickX (c n : Int) : Int := (if c < 0 then -(c + 1) else c) % n
theorem pickX_lt (c n : Int) (hn : 0 < n) : 0 ≤ pickX c n ∧ pickX c n < n := ⟨Int.emod_nonneg _ (by omega), Int.emod_lt_of_pos _ hn⟩
theorem pick_law (c n : Int) (hc : Is64 c) (hn : 0 < n) (hn2 : n ≤ 1024) (w : World) : Calls Tryz.prog 20 #[.int .i64 c, .int .i64 n] w fun e w' => e = .returned (.int .i64 (pickX c n)) ∧ w = w' := by
  unfold Is64 at hc
  have n0 : ¬ n = 0 := by omega
  have n1 : (n == 0) = false := by simp; omega
  by_cases h : c < 0
  · have e : pickX c n = -((c + 1).tmod n) := by
      unfold pickX
      rw [if_pos h, ← Int.neg_tmod, Int.tmod_eq_emod_of_nonneg (by omega)]
    rw [e]
    go_enter Tryz.func20, Tryz.ntmps20
    go_wp2
    go_ret
    exact ⟨rfl, rfl⟩
  · have e : pickX c n = c % n := by
      unfold pickX
      rw [if_neg h]
    rw [e]
    go_enter Tryz.func20, Tryz.ntmps20
    go_wp2
    go_ret
    exact ⟨rfl, rfl⟩

/-- The formula twice, and compared with itself. -/
def twiceN (r1 r2 k : Int) : List Nd := [Nd.cell r1 1, Nd.cell r2 2, Nd.opn k, Nd.cell r1 1, Nd.cell r2 2, Nd.opn k, Nd.opn 8]
theorem twice_stk (r1 r2 k : Int) (h3 : 3 ≤ k) (h13 : k ≤ 13) : ∃ d b, stkP (twiceN r1 r2 k) = [(d, b)] ∧ d ≤ 32 := by
  have h : k = 3 ∨ k = 4 ∨ k = 5 ∨ k = 6 ∨ k = 7 ∨ k = 8 ∨ k = 9 ∨ k = 10 ∨ k = 11 ∨ k = 12 ∨ k = 13 := by omega
  rw [show stkP (twiceN r1 r2 k) = stkP (twiceN 0 0 k) from rfl]
  rcases h with rfl | rfl | rfl | rfl | rfl | rfl | rfl | rfl | rfl | rfl | rfl
  all_goals exact ⟨_, _, rfl, by decide +kernel⟩
theorem twice_wf (r1 r2 k : Int) (h1 : Cell1 r1 1) (h2 : Cell1 r2 2) (h3 : 3 ≤ k) (h13 : k ≤ 13) : Wf (twiceN r1 r2 k) := by
  have hk : k = 3 ∨ k = 4 ∨ k = 5 ∨ k = 6 ∨ k = 7 ∨ k = 8 ∨ k = 9 ∨ k = 10 ∨ k = 11 ∨ k = 12 ∨ k = 13 := by omega
  have hb : ∀ j : Fin 7, ∀ p ∈ stkP ((twiceN 0 0 k).take j.val), 0 ≤ p.1 ∧ p.1 ≤ 1000 := by
    rcases hk with rfl | rfl | rfl | rfl | rfl | rfl | rfl | rfl | rfl | rfl | rfl
    all_goals decide +kernel
  intro j x hx
  match j, hx with
  | 0, hx =>
    cases hx
    exact ⟨.inl ⟨r1, 1, rfl, h1⟩, fun h => absurd h (by show (2 : Int) ≠ 4; decide), hb 0⟩
  | 1, hx =>
    cases hx
    exact ⟨.inl ⟨r2, 2, rfl, h2⟩, fun h => absurd h (by show (2 : Int) ≠ 4; decide), hb 1⟩
  | 2, hx =>
    cases hx
    have e : stkP ((twiceN r1 r2 k).take 2) = [(0, 7), (0, 7)] := rfl
    exact ⟨.inr (.inr ⟨k, rfl, h3, h13⟩), fun _ => by rw [e]; decide, hb 2⟩
  | 3, hx =>
    cases hx
    exact ⟨.inl ⟨r1, 1, rfl, h1⟩, fun h => absurd h (by show (2 : Int) ≠ 4; decide), hb 3⟩
  | 4, hx =>
    cases hx
    exact ⟨.inl ⟨r2, 2, rfl, h2⟩, fun h => absurd h (by show (2 : Int) ≠ 4; decide), hb 4⟩
  | 5, hx =>
    cases hx
    have e : (stkP ((twiceN r1 r2 k).take 5)).length = 3 := by
      rcases hk with rfl | rfl | rfl | rfl | rfl | rfl | rfl | rfl | rfl | rfl | rfl <;> rfl
    exact ⟨.inr (.inr ⟨k, rfl, h3, h13⟩), fun _ => by rw [e]; decide, hb 5⟩
  | 6, hx =>
    cases hx
    have e : (stkP ((twiceN r1 r2 k).take 6)).length = 2 := by
      rcases hk with rfl | rfl | rfl | rfl | rfl | rfl | rfl | rfl | rfl | rfl | rfl <;> rfl
    exact ⟨.inr (.inr ⟨8, rfl, by decide, by decide⟩), fun _ => by rw [e]; decide, hb 6⟩
  | _ + 7, hx => cases hx
theorem eval_two_cmp (p : Nat) (text op : Int) (h8 : 8 ≤ op) (h13 : op ≤ 13) (a b : V) (w : World) : Calls Tryz.prog 45 #[.pointer (some ⟨p, 0, none⟩), .int .i64 op, (Value.agg #[Value.int .i64 (a).tag, Value.int .i64 (a).num, Value.string (a).str, Value.bool (a).is, Value.int .i64 (a).code]), (Value.agg #[Value.int .i64 (b).tag, Value.int .i64 (b).num, Value.string (b).str, Value.bool (b).is, Value.int .i64 (b).code])] w fun e w' => e = .returned (Value.agg #[Value.int .i64 (twoG text op a b).tag, Value.int .i64 (twoG text op a b).num, Value.string (twoG text op a b).str, Value.bool (twoG text op a b).is, Value.int .i64 (twoG text op a b).code]) ∧ Below w.heap.size w w' := by
  rw [show twoG text op a b = comparedG op a b by unfold twoG; rw [if_neg (fun h => by omega), if_neg (by omega)]]
  have H8 := Lib.hid h8
  have H13 := Lib.hid h13
  have h : op = 8 ∨ op = 9 ∨ op = 10 ∨ op = 11 ∨ op = 12 ∨ op = 13 := by omega
  clear h8 h13
  rcases h with rfl | rfl | rfl | rfl | rfl | rfl
  all_goals go_enter Tryz.func45, Tryz.ntmps45
  all_goals go_wp2_with (go_at_call 138; refine (eval_compared _ H8.out H13.out a b _).mono ?_; rintro e w1 ⟨rfl, hb⟩; obtain ⟨l, m, rfl⟩ := more_of_below hb; clear hb)
  all_goals go_returns
  all_goals exact ⟨rfl, (by repeat (first | with_reducible exact Below.refl _ _ | with_reducible assumption | with_reducible refine below_more' ?_ (by go_size) | with_reducible refine bel_alloc ?_ _ (by go_size) | with_reducible refine Below.drew ?_ | with_reducible refine Below.setCell ?_ (by go_size) _ | with_reducible refine below_drewN ?_ _))⟩
/-- What a value compared with itself is: alike, or its fault. -/
def wantX (r : V) : V := if r.tag = 4 then r else truthG true
theorem two_self (text : Int) (r : V) : twoG text 8 r r = wantX r := by
  show comparedG 8 r r = wantX r
  unfold comparedG wantX
  by_cases h : r.tag = 4
  · rw [if_pos h, if_pos h]
  · rw [if_neg h, if_neg h, if_neg h, cmpV_self]
    rfl
theorem twice_val (ents : List Ent) (G : Int → V → V → V) (r1 r2 k : Int) : stkV ents G (twiceN r1 r2 k) = [G 8 (G k (findE ents r1 1) (findE ents r2 2)) (G k (findE ents r1 1) (findE ents r2 2))] := rfl
theorem twice_val2 (ents : List Ent) (G : Int → V → V → V) (r1 r2 k : Int) : stkV ents G ((twiceN r1 r2 k).take 2) = [] ++ [findE ents r1 1, findE ents r2 2] := rfl
theorem twice_val5 (ents : List Ent) (G : Int → V → V → V) (r1 r2 k : Int) : stkV ents G ((twiceN r1 r2 k).take 5) = [G k (findE ents r1 1) (findE ents r2 2)] ++ [findE ents r1 1, findE ents r2 2] := rfl
theorem op_of {k k' : Int} (h : some (Nd.opn k) = some (Nd.opn k')) : k = k' := by
  have := congrArg (fun o => o.map Nd.op) h
  simpa [Nd.opn] using this
theorem not_cell {r c k' : Int} (h : some (Nd.cell r c) = some (Nd.opn k')) : False := by
  have := congrArg (fun o => o.map Nd.kind) h
  simp [Nd.cell, Nd.opn] at this
theorem last_two {pre pre' : List V} {a b a' b' : V} (h : pre ++ [a, b] = pre' ++ [a', b']) : a = a' ∧ b = b' := by
  have h4 := (List.append_inj' h rfl).2
  injection h4 with e1 h5
  injection h5 with e2 _
  exact ⟨e1, e2⟩
theorem work_twice (pe : Nat) (tp : Addr) (text : Int) (ents : List Ent) (r1 r2 k : Int) (h1 : Cell1 r1 1) (h2 : Cell1 r2 2) (h3 : 3 ≤ k) (h13 : k ≤ 13) (hx : Fits (findE ents r1 1)) (hy : Fits (findE ents r2 2)) (hn : ents.length ≤ 1000000)
    (bn c B0 B pt pc : Nat) (asked : Value) (na : Nat) (L : List Value) (w : World) (hr : Reads w B0 15 (some ⟨bn, 0, none⟩) 7 (flatC Nd.cells (twiceN r1 r2 k))) (hE : AtB w pe (evCells tp text)) (hsrc : Src w B pt pc ents asked na L) (ha : na ≤ 900000)
    (hbn : bn ≠ pt) (hbn2 : asked.ownBlock ≠ some bn) (hpe : pe ≠ pt) (hpe2 : asked.ownBlock ≠ some pe) (ht : Pow10 w) (hg : 3 ≠ pt) (hg2 : asked.ownBlock ≠ some 3) :
    Calls Tryz.prog 22 #[.pointer (some ⟨pe, 0, none⟩), .agg #[.slice (some ⟨bn, 0, none⟩) 7 c], .iface 56 (.pointer (some ⟨pt, 0, none⟩))] w fun e w' => e = .returned (Value.agg #[Value.int .i64 (wantX (twoG text k (findE ents r1 1) (findE ents r2 2))).tag, Value.int .i64 (wantX (twoG text k (findE ents r1 1) (findE ents r2 2))).num, Value.string (wantX (twoG text k (findE ents r1 1) (findE ents r2 2))).str, Value.bool (wantX (twoG text k (findE ents r1 1) (findE ents r2 2))).is, Value.int .i64 (wantX (twoG text k (findE ents r1 1) (findE ents r2 2))).code]) ∧ ∃ asked' na' L', Src w' B pt pc ents asked' na' L' ∧ na' ≤ na + 7 ∧ Kept2 pt asked.ownBlock w w' ∧ (asked'.ownBlock = asked.ownBlock ∨ ∀ k, asked'.ownBlock = some k → w.heap.size ≤ k) := by
  obtain ⟨d, b, hb, hd⟩ := twice_stk r1 r2 k h3 h13
  rw [← two_self text]
  refine eval_WorkK pe tp text (twoG text) (twiceN r1 r2 k) bn 0 7 c B0 B pt pc ents asked na L w hr (by decide) (by decide) (twice_wf r1 r2 k h1 h2 h3 h13) d b hb hd _ (twice_val ents _ r1 r2 k) hE hsrc hn ha hbn hbn2 hpe hpe2 ?_ ?_
  · intro j x hx h
    match j, hx with
    | 0, hx => cases hx; exact absurd h (by show (2 : Int) ≠ 1; decide)
    | 1, hx => cases hx; exact absurd h (by show (2 : Int) ≠ 1; decide)
    | 2, hx => cases hx; exact absurd h (by show (4 : Int) ≠ 1; decide)
    | 3, hx => cases hx; exact absurd h (by show (2 : Int) ≠ 1; decide)
    | 4, hx => cases hx; exact absurd h (by show (2 : Int) ≠ 1; decide)
    | 5, hx => cases hx; exact absurd h (by show (4 : Int) ≠ 1; decide)
    | 6, hx => cases hx; exact absurd h (by show (4 : Int) ≠ 1; decide)
    | _ + 7, hx => cases hx
  · intro j k' pre a b hj hs w' hE' hk
    match j, hj with
    | 0, hj => exact (not_cell hj).elim
    | 1, hj => exact (not_cell hj).elim
    | 3, hj => exact (not_cell hj).elim
    | 4, hj => exact (not_cell hj).elim
    | 2, hj =>
      obtain rfl := op_of hj
      rw [twice_val2] at hs
      obtain ⟨e1, e2⟩ := last_two hs
      rw [e1] at hx
      rw [e2] at hy
      exact eval_two pe tp text k h3 h13 a b hx hy w' hE' (ht.kept hk hg hg2)
    | 5, hj =>
      obtain rfl := op_of hj
      rw [twice_val5] at hs
      obtain ⟨e1, e2⟩ := last_two hs
      rw [e1] at hx
      rw [e2] at hy
      exact eval_two pe tp text k h3 h13 a b hx hy w' hE' (ht.kept hk hg hg2)
    | 6, hj =>
      obtain rfl := op_of hj
      exact eval_two_cmp pe text 8 (by decide) (by decide) a b w'
    | _ + 7, hj => cases hj
theorem eq_self (r : V) (w : World) : (binOp .eql 29 (Value.agg #[Value.int .i64 (r).tag, Value.int .i64 (r).num, Value.string (r).str, Value.bool (r).is, Value.int .i64 (r).code]) (Value.agg #[Value.int .i64 (r).tag, Value.int .i64 (r).num, Value.string (r).str, Value.bool (r).is, Value.int .i64 (r).code])).run Tryz.prog w = .ok (.bool true) w := by
  rw [eqlV]
  simp [eqB]
theorem find_one (x y : V) (r1 r2 : Int) : findE [⟨r1, 1, x⟩, ⟨r2, 2, y⟩] r1 1 = x := by simp [findE]
theorem find_two (x y : V) (r1 r2 : Int) : findE [⟨r1, 1, x⟩, ⟨r2, 2, y⟩] r2 2 = y := by simp [findE]
/-- What the law knows from its first call of the worker on: the worker, the two values, the nodes, the table. -/
structure PRel (w0 wr : World) (B pe px py bl pt pc : Nat) (tp : Addr) (text r1 r2 k : Int) (x y : V) (asked : Value) (na : Nat) (L : List Value) : Prop where
  base : Below w0.heap.size w0 wr
  ev : AtB wr pe (evCells tp text)
  sx : AtB wr px (vc x)
  sy : AtB wr py (vc y)
  nl : AtB wr bl (flatC Nd.cells (pairN r1 1 r2 2 k))
  src : Src wr B pt pc [⟨r1, 1, x⟩, ⟨r2, 2, y⟩] asked na L
  pw : Pow10 wr
/-- Where the blocks lie. -/
structure PLie (w0 : World) (B pe px py bl pt : Nat) : Prop where
  h0 : w0.heap.size ≤ pt ∧ w0.heap.size ≤ B
  hB : pe < B ∧ px < B ∧ py < B ∧ bl < B
  ht : pe ≠ pt ∧ px ≠ pt ∧ py ≠ pt ∧ bl ≠ pt
  hp : 3 < w0.heap.size
section
variable {w0 wr w1 : World} {B pe px py bl pt pc : Nat} {tp : Addr} {text r1 r2 k : Int} {x y : V} {asked : Value} {na : Nat} {L : List Value}
theorem PRel.below (h : PRel w0 wr B pe px py bl pt pc tp text r1 r2 k x y asked na L) (hb : Below wr.heap.size wr w1) : PRel w0 w1 B pe px py bl pt pc tp text r1 r2 k x y asked na L :=
  ⟨h.base.trans (hb.mono h.base.size), h.ev.below hb, h.sx.below hb, h.sy.below hb, h.nl.below hb, h.src.below hb, h.pw.below hb (Nat.le_refl _)⟩
theorem PRel.row (h : PRel w0 wr B pe px py bl pt pc tp text r1 r2 k x y asked na L) {q : Nat} (hq : q < B) : asked.ownBlock ≠ some q := fun e => by
  have := (h.src.own.lt q e).1
  omega
theorem PRel.turn (h : PRel w0 wr B pe px py bl pt pc tp text r1 r2 k x y asked na L) (hl : PLie w0 B pe px py bl pt) {asked' : Value} {na' : Nat} {L' : List Value} (hs : Src w1 B pt pc [⟨r1, 1, x⟩, ⟨r2, 2, y⟩] asked' na' L') (hk : Kept2 pt asked.ownBlock wr w1) : PRel w0 w1 B pe px py bl pt pc tp text r1 r2 k x y asked' na' L' := by
  obtain ⟨a1, a4⟩ := hl.h0
  obtain ⟨b1, b2, b3, b4⟩ := hl.hB
  obtain ⟨c1, c2, c3, c4⟩ := hl.ht
  have hp := hl.hp
  exact ⟨hk.base h.base (Nat.le_refl _) a1 (fun q hq => Nat.le_trans a4 (h.src.own.lt q hq).1), atB_kept h.ev hk c1 (h.row b1), atB_kept h.sx hk c2 (h.row b2), atB_kept h.sy hk c3 (h.row b3), atB_kept h.nl hk c4 (h.row b4), hs, h.pw.kept hk (by omega) (h.row (by omega))⟩
/-- The worker at the formula; at the formula twice. -/
theorem PRel.work (h : PRel w0 wr B pe px py bl pt pc tp text r1 r2 k x y asked na L) (hl : PLie w0 B pe px py bl pt) {X : World} (hb : Below wr.heap.size wr X) (hr1 : Cell1 r1 1) (hr2 : Cell1 r2 2) (h3 : 3 ≤ k) (h13 : k ≤ 13)
    (hx : Fits x) (hy : Fits y) (r : V) (hr : twoG text k x y = r) (c : Nat) (hbl : bl < wr.heap.size) (hna : na ≤ 900000) :
    Calls Tryz.prog 22 #[.pointer (some ⟨pe, 0, none⟩), .agg #[.slice (some ⟨bl, 0, none⟩) 3 c], .iface 56 (.pointer (some ⟨pt, 0, none⟩))] X fun e w' => e = .returned (Value.agg #[Value.int .i64 (r).tag, Value.int .i64 (r).num, Value.string (r).str, Value.bool (r).is, Value.int .i64 (r).code]) ∧ ∃ asked' na' L', na' ≤ na + 3 ∧ PRel w0 w' B pe px py bl pt pc tp text r1 r2 k x y asked' na' L' ∧ Kept2 pt asked.ownBlock X w' := by
  have hX := h.below hb
  obtain ⟨a1, a4⟩ := hl.h0
  obtain ⟨b1, b2, b3, b4⟩ := hl.hB
  obtain ⟨c1, c2, c3, c4⟩ := hl.ht
  have hp := hl.hp
  have hc := work_pair pe tp text [⟨r1, 1, x⟩, ⟨r2, 2, y⟩] r1 1 r2 2 k hr1 hr2 h3 h13 (by rw [find_one]; exact hx) (by rw [find_two]; exact hy) (show 2 ≤ 1000000 by decide) bl c (bl + 1) B pt pc asked na L X ⟨rfl, fun _ => ⟨bl, 0, rfl, Nat.lt_succ_self _, fun j u hu => by rw [Nat.zero_add]; exact hX.nl j u hu⟩⟩ hX.ev hX.src hna c4 (h.row b4) c1 (h.row b1) hX.pw (by omega) (h.row (by omega))
  rw [find_one, find_two, hr] at hc
  refine hc.mono ?_
  rintro e w2 ⟨rfl, ask2, na2, L2, hs, hn2, hk, _⟩
  exact ⟨rfl, ask2, na2, L2, hn2, hX.turn hl hs hk, hk⟩
theorem PRel.twice (h : PRel w0 wr B pe px py bl pt pc tp text r1 r2 k x y asked na L) (hl : PLie w0 B pe px py bl pt) {X : World} (hb : Below wr.heap.size wr X) (hr1 : Cell1 r1 1) (hr2 : Cell1 r2 2) (h3 : 3 ≤ k) (h13 : k ≤ 13)
    (hx : Fits x) (hy : Fits y) (r : V) (hr : twoG text k x y = r) (bn c B0 : Nat) (hbn : bn ≠ pt) (hbn2 : asked.ownBlock ≠ some bn) (hrd : Reads X B0 15 (some ⟨bn, 0, none⟩) 7 (flatC Nd.cells (twiceN r1 r2 k))) (hna : na ≤ 900000) :
    Calls Tryz.prog 22 #[.pointer (some ⟨pe, 0, none⟩), .agg #[.slice (some ⟨bn, 0, none⟩) 7 c], .iface 56 (.pointer (some ⟨pt, 0, none⟩))] X fun e w' => e = .returned (Value.agg #[Value.int .i64 (wantX r).tag, Value.int .i64 (wantX r).num, Value.string (wantX r).str, Value.bool (wantX r).is, Value.int .i64 (wantX r).code]) ∧ ∃ asked' na' L', na' ≤ na + 7 ∧ PRel w0 w' B pe px py bl pt pc tp text r1 r2 k x y asked' na' L' ∧ Kept2 pt asked.ownBlock X w' := by
  have hX := h.below hb
  obtain ⟨a1, a4⟩ := hl.h0
  obtain ⟨b1, b2, b3, b4⟩ := hl.hB
  obtain ⟨c1, c2, c3, c4⟩ := hl.ht
  have hp := hl.hp
  have hc := work_twice pe tp text [⟨r1, 1, x⟩, ⟨r2, 2, y⟩] r1 r2 k hr1 hr2 h3 h13 (by rw [find_one]; exact hx) (by rw [find_two]; exact hy) (show 2 ≤ 1000000 by decide) bn c B0 B pt pc asked na L X hrd hX.ev hX.src hna hbn hbn2 c1 (h.row b1) hX.pw (by omega) (h.row (by omega))
  rw [find_one, find_two, hr] at hc
  refine hc.mono ?_
  rintro e w2 ⟨rfl, ask2, na2, L2, hs, hn2, hk, _⟩
  exact ⟨rfl, ask2, na2, L2, hn2, hX.turn hl hs hk, hk⟩
end
theorem info_N : (Tryz.prog.info? 54).map (fun i => (i.zero, i.size, i.bytes)) = some (some (.agg #[.int .i64 0, .int .i64 0, .int .i64 0, .string ⟨#[]⟩, .bool false, .int .i64 0, .int .i64 0, .int .i64 0, .int .i64 0, .int .i64 0, .int .i64 0, .int .i64 0, .int .i64 0, .string ⟨#[]⟩, .int .i64 0]), 15, 136) := by kernel_rfl
theorem at_add {w : World} {p : Nat} {l : List Value} (h : AtB w p l) : ∀ j u, l[j]? = some u → w.cell? ((⟨p, 0, none⟩ : Addr).add j) = some u := by
  intro j u hu
  have e : (⟨p, 0, none⟩ : Addr).add j = ⟨p, j, none⟩ := by unfold Addr.add; split <;> simp_all
  rw [e]
  exact h j u hu
theorem nodes_one (l : List Nd) : ∀ u ∈ flatC Nd.cells l, u.oneCell' = true := by
  intro u hu
  simp only [flatC, List.mem_flatMap] at hu
  obtain ⟨x, _, hx⟩ := hu
  simp only [Nd.cells, List.mem_cons, List.not_mem_nil, or_false] at hx
  rcases hx with rfl | rfl | rfl | rfl | rfl | rfl | rfl | rfl | rfl | rfl | rfl | rfl | rfl | rfl | rfl <;> rfl
theorem owns_empty (w : World) (base : Nat) (hb : base ≤ w.heap.size) : (w.alloc (.cells #[] 54)).ownsRow base 54 15 (.slice (some ⟨w.heap.size, 0, none⟩) 0 0) 0 [] :=
  ⟨rfl, .inr ⟨w.heap.size, 0, #[], rfl, hb, heap_alloc_new w _, Nat.le_refl _, by decide, rfl, rfl⟩⟩
theorem twice_cells (r1 r2 k : Int) : ([] ++ flatC Nd.cells (pairN r1 1 r2 2 k)) ++ flatC Nd.cells (pairN r1 1 r2 2 k) ++ flatC Nd.cells [Nd.opn 8] = flatC Nd.cells (twiceN r1 r2 k) := rfl
end Go.Proofs.YtegbhdeaicgpkaaGreatDoor
