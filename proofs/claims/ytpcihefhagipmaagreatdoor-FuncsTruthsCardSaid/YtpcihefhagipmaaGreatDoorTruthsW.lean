/-
  The walk of the law FuncsTruths: it returns true, whatever the two values.
-/
import Derived.Test.YtpcihefhagipmaaGreatDoorCallT
import Derived.Deep.DeepCutAuto
namespace Go.Proofs.YtpcihefhagipmaaGreatDoor
open Go Go.RowKit

/-- Block p holds the cells. -/
def At (w : World) (p : Nat) (l : List Value) : Prop := ∀ j u, l[j]? = some u → w.cell? ⟨p, j, none⟩ = some u
theorem At.keeps {w w' : World} {p : Nat} {l : List Value} (h : At w p l) (hk : Keeps w w') : At w' p l := fun j u hu => hk.cell _ _ _ (h j u hu)
theorem At.turn {w w' : World} {p b : Nat} {l : List Value} (h : At w p l) (hp : p ≠ b) (ht : Turn b w w') : At w' p l := fun j u hu => ht.cell hp (h j u hu)
theorem At.new {w : World} {cs : Array Value} {t : TypeId} {p : Nat} (hp : p = w.heap.size) : At (w.alloc (.cells cs t)) p cs.toList := by
  subst hp
  intro j u hu
  rw [cell_of_row (w.alloc (.cells cs t)) w.heap.size j cs t (0, 0) (heap_alloc_new w _)]
  simpa using hu
def tagK (k : Nat) : Int := if k = 0 then 4 else if k = 1 then 0 else if k = 2 then 1 else if k = 3 then 2 else 3
def tagNames : List Value := [.string ⟨#[73, 83, 69, 82, 82]⟩, .string ⟨#[73, 83, 66, 76, 65, 78, 75]⟩, .string ⟨#[73, 83, 78, 85, 77]⟩, .string ⟨#[73, 83, 84, 69, 88, 84]⟩, .string ⟨#[73, 83, 66, 79, 79, 76]⟩]
def yesN (x : V) (k : Nat) : Nat := (List.range k).countP fun j => x.tag == tagK j
theorem yesN_succ (x : V) (k : Nat) : yesN x (k + 1) = yesN x k + if x.tag == tagK k then 1 else 0 := by
  unfold yesN
  rw [List.range_succ, List.countP_append]
  simp [List.countP_cons]
theorem yesN_le (x : V) (k : Nat) : yesN x k ≤ k := by
  unfold yesN
  exact Nat.le_trans List.countP_le_length (by simp)
theorem yesN_all (x : V) (h : mayG x = true) : yesN x 5 = 1 := by
  have ht := may_tag h
  have h5 : x.tag = 0 ∨ x.tag = 1 ∨ x.tag = 2 ∨ x.tag = 3 ∨ x.tag = 4 := by omega
  unfold yesN
  rcases h5 with e | e | e | e | e <;> rw [e] <;> decide +kernel
/-- What stands at the loop. -/
def TrRel (x y : V) (w : World) (b p2 p3 p6 p7 p8 : Nat) (wr : World) : Prop := Ready wr b ∧ Below w.heap.size w wr ∧ At wr p2 x.cells ∧ At wr p3 y.cells ∧ At wr p6 (aCells x) ∧ At wr p7 (aCells y) ∧ At wr p8 tagNames
theorem TrRel.below {x y : V} {w wr w' : World} {b p2 p3 p6 p7 p8 : Nat} (h : TrRel x y w b p2 p3 p6 p7 p8 wr) (hb : Below wr.heap.size wr w') : TrRel x y w b p2 p3 p6 p7 p8 w' := by
  obtain ⟨h1, h2, h3, h4, h5, h6, h7⟩ := h
  have hk := keeps_below hb
  exact ⟨h1.below hb, h2.trans (hb.mono h2.size), h3.keeps hk, h4.keeps hk, h5.keeps hk, h6.keeps hk, h7.keeps hk⟩


theorem tag_at (k : Nat) (h : k < 5) : ∃ s, tagNames[k]? = some (.string s) ∧ ownTab s = some (1, 1, .tagged (tagK k)) ∧ takesAll s [false] = true := by
  have h : k = 0 ∨ k = 1 ∨ k = 2 ∨ k = 3 ∨ k = 4 := by omega
  rcases h with rfl | rfl | rfl | rfl | rfl <;> exact ⟨_, rfl, rfl, by decide +kernel⟩
theorem sz_alloc (w : World) (o : Obj) : (w.alloc o).heap.size = w.heap.size + 1 := by simp
theorem sz_more (w : World) (l : List Obj) (n : Nat) : (more w l n).heap.size = w.heap.size + l.length := by simp [more]
theorem sz_drew (w : World) : w.drew.heap.size = w.heap.size := rfl
theorem sz_drewN (w : World) (n : Nat) : (w.drewN n).heap.size = w.heap.size := rfl
theorem Turn.base {b B : Nat} {w w' : World} (h : Turn b w w') (hb : B ≤ b) (hB : B ≤ w.heap.size) : Below B w w' := ⟨h.1, h.2.1, h.2.2.1, h.2.2.2.1, fun k hk => h.2.2.2.2 k (by omega) (by omega)⟩
theorem At.drewI {w : World} {p : Nat} {l : List Value} (h : At w p l) : At w.drew p l := h.keeps (keeps_drew (keeps_refl _))
theorem At.drewNI {w : World} {p : Nat} {l : List Value} (h : At w p l) (n : Nat) : At (w.drewN n) p l := h.keeps (keeps_drewN (keeps_refl _) n)
theorem At.allocI {w : World} {p : Nat} {l : List Value} (h : At w p l) (o : Obj) : At (w.alloc o) p l := h.keeps (keeps_alloc (keeps_refl _) o)
theorem At.moreI {w : World} {p : Nat} {l : List Value} (h : At w p l) (k : List Obj) (n : Nat) : At (more w k n) p l := h.keeps (keeps_more (keeps_refl _) k n)
theorem reads_at {w : World} {B size n p : Nat} {l : List Value} (hp : p < B) (hl : l.length = n * size) (h : At w p l) : Reads w B size (some ⟨p, 0, none⟩) n l := ⟨hl, fun _ => ⟨p, 0, rfl, hp, fun j u hu => by rw [Nat.zero_add]; exact h j u hu⟩⟩
theorem cell_allocI {w : World} {p i : Nat} {v : Value} (h : w.cell? ⟨p, i, none⟩ = some v) (o : Obj) : (w.alloc o).cell? ⟨p, i, none⟩ = some v := (keeps_alloc (keeps_refl _) o).cell _ _ _ h
theorem cell_moreI {w : World} {p i : Nat} {v : Value} (h : w.cell? ⟨p, i, none⟩ = some v) (l : List Obj) (n : Nat) : (more w l n).cell? ⟨p, i, none⟩ = some v := (keeps_more (keeps_refl _) l n).cell _ _ _ h
theorem cell_drewI {w : World} {p i : Nat} {v : Value} (h : w.cell? ⟨p, i, none⟩ = some v) : w.drew.cell? ⟨p, i, none⟩ = some v := h
theorem cell_drewNI {w : World} {p i : Nat} {v : Value} (h : w.cell? ⟨p, i, none⟩ = some v) (n : Nat) : (w.drewN n).cell? ⟨p, i, none⟩ = some v := h
theorem cell_setI {w : World} {p i q j : Nat} {v u : Value} (h : w.cell? ⟨p, i, none⟩ = some v) (hn : p ≠ q) : (w.setCell ⟨q, j, none⟩ u).cell? ⟨p, i, none⟩ = some v := (World.cell?_setCell_other _ _ _ _ (by simp [hn])).trans h
theorem eq_tt (w : World) : (binOp .eql 25 (Value.agg #[Value.int .i64 (truthG true).tag, Value.int .i64 (truthG true).num, Value.string (truthG true).str, Value.bool (truthG true).is, Value.int .i64 (truthG true).code]) (Value.agg #[Value.int .i64 (truthG true).tag, Value.int .i64 (truthG true).num, Value.string (truthG true).str, Value.bool (truthG true).is, Value.int .i64 (truthG true).code])).run Tryz.prog w = .ok (.bool true) w := by rw [eqlV]; simp [eqB]
theorem eq_ft (w : World) : (binOp .eql 25 (Value.agg #[Value.int .i64 (truthG false).tag, Value.int .i64 (truthG false).num, Value.string (truthG false).str, Value.bool (truthG false).is, Value.int .i64 (truthG false).code]) (Value.agg #[Value.int .i64 (truthG true).tag, Value.int .i64 (truthG true).num, Value.string (truthG true).str, Value.bool (truthG true).is, Value.int .i64 (truthG true).code])).run Tryz.prog w = .ok (.bool false) w := by rw [eqlV]; rfl
theorem ne_ff (w : World) : (binOp .neq 25 (Value.agg #[Value.int .i64 (truthG false).tag, Value.int .i64 (truthG false).num, Value.string (truthG false).str, Value.bool (truthG false).is, Value.int .i64 (truthG false).code]) (Value.agg #[Value.int .i64 (truthG false).tag, Value.int .i64 (truthG false).num, Value.string (truthG false).str, Value.bool (truthG false).is, Value.int .i64 (truthG false).code])).run Tryz.prog w = .ok (.bool false) w := by rw [neqV]; simp [eqB]
theorem ne_vv (v : V) (w : World) : (binOp .neq 25 (Value.agg #[Value.int .i64 (v).tag, Value.int .i64 (v).num, Value.string (v).str, Value.bool (v).is, Value.int .i64 (v).code]) (Value.agg #[Value.int .i64 (v).tag, Value.int .i64 (v).num, Value.string (v).str, Value.bool (v).is, Value.int .i64 (v).code])).run Tryz.prog w = .ok (.bool false) w := by rw [neqV]; simp [eqB]
theorem wrap_y (x : V) (k : Nat) (h : k ≤ 5) : IntKind.i64.wrap ((yesN x k : Nat) + 1 : Int) = ((yesN x k : Nat) + 1 : Int) := by
  have := yesN_le x k
  rw [IntKind.wrap_i64]
  omega
theorem yes_t {x : V} {k : Nat} {t : Int} (hq : true = (x.tag == t)) (ht : tagK k = t) : ((yesN x k : Nat) + 1 : Int) = ((yesN x (k + 1) : Nat) : Int) := by
  rw [yesN_succ, ht, ← hq]
  simp
theorem yes_f {x : V} {k : Nat} {t : Int} (hq : false = (x.tag == t)) (ht : tagK k = t) : ((yesN x k : Nat) : Int) = ((yesN x (k + 1) : Nat) : Int) := by
  rw [yesN_succ, ht, ← hq]
  simp
theorem eq_vv (v : V) (w : World) : (binOp .eql 25 (Value.agg #[Value.int .i64 (v).tag, Value.int .i64 (v).num, Value.string (v).str, Value.bool (v).is, Value.int .i64 (v).code]) (Value.agg #[Value.int .i64 (v).tag, Value.int .i64 (v).num, Value.string (v).str, Value.bool (v).is, Value.int .i64 (v).code])).run Tryz.prog w = .ok (.bool true) w := by rw [eqlV]; simp [eqB]
theorem law_fault (c : Int) (w : World) : Calls Tryz.prog 12 #[.int .i64 c] w fun e w' => e = .returned (.agg #[.int .i64 4, .int .i64 0, .string ⟨#[]⟩, .bool false, .int .i64 c]) ∧ Below w.heap.size w w' := by
  go_enter Tryz.func12, Tryz.ntmps12
  go_wp2
  exact bodyPost_ret (by simp [results, Tryz.results12, go_sem]; try rfl) rfl ⟨rfl, (by repeat (first | with_reducible exact Below.refl _ _ | with_reducible assumption | with_reducible refine below_more' ?_ (by go_size) | with_reducible refine bel_alloc ?_ _ (by go_size) | with_reducible refine Below.drew ?_ | with_reducible refine Below.setCell ?_ (by go_size) _ | with_reducible refine below_drewN ?_ _))⟩
theorem law_single2k (w : World) : Calls Tryz.prog 9 #[.agg #[.int .i64 1, .int .i64 20000, .string ⟨#[]⟩, .bool false, .int .i64 0]] w fun e w' => e = .returned (.agg #[.bool false, .int .i64 1, .int .i64 20000, .string ⟨#[]⟩, .bool false, .int .i64 0, .int .i64 0, .int .i64 0, .int .i64 0, .int .i64 0, .slice none 0 0]) ∧ Below w.heap.size w w' := law_single ⟨1, 20000, ⟨#[]⟩, false, 0⟩ w
theorem errno_ok (x : V) (h : mayG x = true) : mayG (errnoG x) = true ∧ -9223372036854775808 ≤ (errnoG x).num ∧ (errnoG x).num ≤ 9223372036854775807 := by
  by_cases h4 : x.tag = 4
  · obtain ⟨_, h1, h8⟩ := may_fault h h4
    obtain ⟨a, b, s, c, d⟩ := x
    simp only at h4 h1 h8
    subst h4
    clear h
    have hd : d = 1 ∨ d = 2 ∨ d = 3 ∨ d = 4 ∨ d = 5 ∨ d = 6 ∨ d = 7 ∨ d = 8 := by omega
    clear h1 h8
    have e : errnoG ⟨4, b, s, c, d⟩ = numG (d * 10000) := rfl
    rw [e]
    rcases hd with rfl | rfl | rfl | rfl | rfl | rfl | rfl | rfl <;> decide +kernel
  · have e : errnoG x = errG 8 := if_neg h4
    rw [e]
    decide +kernel
theorem at11 {w : World} {p : Nat} {v : V} (h0 : w.cell? ⟨p, 0, none⟩ = some (.bool false)) (h1 : w.cell? ⟨p, 1, none⟩ = some (.int .i64 v.tag)) (h2 : w.cell? ⟨p, 2, none⟩ = some (.int .i64 v.num)) (h3 : w.cell? ⟨p, 3, none⟩ = some (.string v.str)) (h4 : w.cell? ⟨p, 4, none⟩ = some (.bool v.is)) (h5 : w.cell? ⟨p, 5, none⟩ = some (.int .i64 v.code)) (h6 : w.cell? ⟨p, 6, none⟩ = some (.int .i64 0)) (h7 : w.cell? ⟨p, 7, none⟩ = some (.int .i64 0)) (h8 : w.cell? ⟨p, 8, none⟩ = some (.int .i64 0)) (h9 : w.cell? ⟨p, 9, none⟩ = some (.int .i64 0)) (h10 : w.cell? ⟨p, 10, none⟩ = some (.slice none 0 0)) : At w p (aCells v) := by
  intro j u hu
  match j, hu with
  | 0, hu => cases hu; exact h0
  | 1, hu => cases hu; exact h1
  | 2, hu => cases hu; exact h2
  | 3, hu => cases hu; exact h3
  | 4, hu => cases hu; exact h4
  | 5, hu => cases hu; exact h5
  | 6, hu => cases hu; exact h6
  | 7, hu => cases hu; exact h7
  | 8, hu => cases hu; exact h8
  | 9, hu => cases hu; exact h9
  | 10, hu => cases hu; exact h10
  | _ + 11, hu => cases hu
theorem at5 {w : World} {p : Nat} {a b c d e : Value} (h0 : w.cell? ⟨p, 0, none⟩ = some a) (h1 : w.cell? ⟨p, 1, none⟩ = some b) (h2 : w.cell? ⟨p, 2, none⟩ = some c) (h3 : w.cell? ⟨p, 3, none⟩ = some d) (h4 : w.cell? ⟨p, 4, none⟩ = some e) : At w p [a, b, c, d, e] := by
  intro j u hu
  match j, hu with
  | 0, hu => cases hu; exact h0
  | 1, hu => cases hu; exact h1
  | 2, hu => cases hu; exact h2
  | 3, hu => cases hu; exact h3
  | 4, hu => cases hu; exact h4
  | _ + 5, hu => cases hu

set_option maxRecDepth 100000 in
set_option maxHeartbeats 4000000 in
theorem funcsTruths (x y : V) (hxl : -9223372036854775808 ≤ x.num) (hyl : -9223372036854775808 ≤ y.num) (w : World) : Calls Tryz.prog 3 #[(Value.agg #[Value.int .i64 (x).tag, Value.int .i64 (x).num, Value.string (x).str, Value.bool (x).is, Value.int .i64 (x).code]), (Value.agg #[Value.int .i64 (y).tag, Value.int .i64 (y).num, Value.string (y).str, Value.bool (y).is, Value.int .i64 (y).code])] w fun e w' => e = .returned (.bool true) ∧ Below w.heap.size w w' := by
  have HX := Lib.hid hxl
  have HY := Lib.hid hyl
  clear hxl hyl
  cases hmx : mayG x with
  | false =>
    go_enter Tryz.func3, Tryz.ntmps3
    go_wp2_with (first | (go_at_call 6; refine (table_New _).mono ?_; rintro e w1 ⟨rfl, hF, hb⟩; have hs1 := hb.size; replace hF : Fresh w1 (w.heap.size + 1 + 1) := (by simpa using hF); replace hs1 : w.heap.size + 1 + 1 ≤ w1.heap.size := (by simpa using hs1); have hA2 : At w1 w.heap.size x.cells := At.keeps (At.keeps (At.new rfl) (by repeat (first | with_reducible exact keeps_refl _ | with_reducible assumption | with_reducible refine keeps_alloc ?_ _ | with_reducible refine keeps_more ?_ _ _ | with_reducible refine keeps_drew ?_ | with_reducible refine keeps_drewN ?_ _))) (keeps_below hb); have hA3 : At w1 (w.heap.size + 1) y.cells := At.keeps (At.new (by simp)) (keeps_below hb); have hB1 : Below w.heap.size w w1 := Below.trans (by repeat (first | with_reducible exact Below.refl _ _ | with_reducible assumption | with_reducible refine below_more' ?_ (by go_size) | with_reducible refine bel_alloc ?_ _ (by go_size) | with_reducible refine Below.drew ?_ | with_reducible refine Below.setCell ?_ (by go_size) _ | with_reducible refine below_drewN ?_ _)) (hb.mono (by simp; omega)); clear hb) | (go_at_call 7; refine (law_knownF (w.heap.size + 1 + 1) w1 (.inr hF)).mono ?_; rintro e w2 ⟨rfl, hR, hT⟩; replace hA2 := hA2.turn (by omega) hT; replace hA3 := hA3.turn (by omega) hT; have x0 := hA2 0 _ rfl; have x1 := hA2 1 _ rfl; have x2 := hA2 2 _ rfl; have x3 := hA2 3 _ rfl; have x4 := hA2 4 _ rfl; have y0 := hA3 0 _ rfl; have y1 := hA3 1 _ rfl; have y2 := hA3 2 _ rfl; have y3 := hA3 3 _ rfl; have y4 := hA3 4 _ rfl; have hB2 : Below w.heap.size w w2 := hB1.trans (hT.base (by omega) (by omega)); have l2 := cell_lt x0; have l3 := cell_lt y0; clear hB1 hF hT hs1) | (go_at_call_of 8 (Value.agg #[Value.int .i64 (x).tag, Value.int .i64 (x).num, Value.string (x).str, Value.bool (x).is, Value.int .i64 (x).code]); refine (ref02_May x HX.out _).mono ?_; rintro e w3 ⟨rfl, hb⟩; obtain ⟨l5, k5, rfl⟩ := more_of_below hb; clear hb) | (go_at_call_of 8 (Value.agg #[Value.int .i64 (y).tag, Value.int .i64 (y).num, Value.string (y).str, Value.bool (y).is, Value.int .i64 (y).code]); refine (ref02_May y HY.out _).mono ?_; rintro e w3 ⟨rfl, hb⟩; obtain ⟨l5, k5, rfl⟩ := more_of_below hb; clear hb))
    go_ret
    exact ⟨rfl, (by repeat (first | with_reducible exact Below.refl _ _ | with_reducible assumption | with_reducible refine below_more' ?_ (by go_size) | with_reducible refine bel_alloc ?_ _ (by go_size) | with_reducible refine Below.drew ?_ | with_reducible refine Below.setCell ?_ (by go_size) _ | with_reducible refine below_drewN ?_ _))⟩
  | true =>
    cases hmy : mayG y with
    | false =>
      go_enter Tryz.func3, Tryz.ntmps3
      go_wp2_with (first | (go_at_call 6; refine (table_New _).mono ?_; rintro e w1 ⟨rfl, hF, hb⟩; have hs1 := hb.size; replace hF : Fresh w1 (w.heap.size + 1 + 1) := (by simpa using hF); replace hs1 : w.heap.size + 1 + 1 ≤ w1.heap.size := (by simpa using hs1); have hA2 : At w1 w.heap.size x.cells := At.keeps (At.keeps (At.new rfl) (by repeat (first | with_reducible exact keeps_refl _ | with_reducible assumption | with_reducible refine keeps_alloc ?_ _ | with_reducible refine keeps_more ?_ _ _ | with_reducible refine keeps_drew ?_ | with_reducible refine keeps_drewN ?_ _))) (keeps_below hb); have hA3 : At w1 (w.heap.size + 1) y.cells := At.keeps (At.new (by simp)) (keeps_below hb); have hB1 : Below w.heap.size w w1 := Below.trans (by repeat (first | with_reducible exact Below.refl _ _ | with_reducible assumption | with_reducible refine below_more' ?_ (by go_size) | with_reducible refine bel_alloc ?_ _ (by go_size) | with_reducible refine Below.drew ?_ | with_reducible refine Below.setCell ?_ (by go_size) _ | with_reducible refine below_drewN ?_ _)) (hb.mono (by simp; omega)); clear hb) | (go_at_call 7; refine (law_knownF (w.heap.size + 1 + 1) w1 (.inr hF)).mono ?_; rintro e w2 ⟨rfl, hR, hT⟩; replace hA2 := hA2.turn (by omega) hT; replace hA3 := hA3.turn (by omega) hT; have x0 := hA2 0 _ rfl; have x1 := hA2 1 _ rfl; have x2 := hA2 2 _ rfl; have x3 := hA2 3 _ rfl; have x4 := hA2 4 _ rfl; have y0 := hA3 0 _ rfl; have y1 := hA3 1 _ rfl; have y2 := hA3 2 _ rfl; have y3 := hA3 3 _ rfl; have y4 := hA3 4 _ rfl; have hB2 : Below w.heap.size w w2 := hB1.trans (hT.base (by omega) (by omega)); have l2 := cell_lt x0; have l3 := cell_lt y0; clear hB1 hF hT hs1) | (go_at_call_of 8 (Value.agg #[Value.int .i64 (x).tag, Value.int .i64 (x).num, Value.string (x).str, Value.bool (x).is, Value.int .i64 (x).code]); refine (ref02_May x HX.out _).mono ?_; rintro e w3 ⟨rfl, hb⟩; obtain ⟨l5, k5, rfl⟩ := more_of_below hb; clear hb) | (go_at_call_of 8 (Value.agg #[Value.int .i64 (y).tag, Value.int .i64 (y).num, Value.string (y).str, Value.bool (y).is, Value.int .i64 (y).code]); refine (ref02_May y HY.out _).mono ?_; rintro e w3 ⟨rfl, hb⟩; obtain ⟨l5, k5, rfl⟩ := more_of_below hb; clear hb))
      go_ret
      exact ⟨rfl, (by repeat (first | with_reducible exact Below.refl _ _ | with_reducible assumption | with_reducible refine below_more' ?_ (by go_size) | with_reducible refine bel_alloc ?_ _ (by go_size) | with_reducible refine Below.drew ?_ | with_reducible refine Below.setCell ?_ (by go_size) _ | with_reducible refine below_drewN ?_ _))⟩
    | true =>
      go_enter Tryz.func3, Tryz.ntmps3
      go_wp2_with (first | (go_at_call 6; refine (table_New _).mono ?_; rintro e w1 ⟨rfl, hF, hb⟩; have hs1 := hb.size; replace hF : Fresh w1 (w.heap.size + 1 + 1) := (by simpa using hF); replace hs1 : w.heap.size + 1 + 1 ≤ w1.heap.size := (by simpa using hs1); have hA2 : At w1 w.heap.size x.cells := At.keeps (At.keeps (At.new rfl) (by repeat (first | with_reducible exact keeps_refl _ | with_reducible assumption | with_reducible refine keeps_alloc ?_ _ | with_reducible refine keeps_more ?_ _ _ | with_reducible refine keeps_drew ?_ | with_reducible refine keeps_drewN ?_ _))) (keeps_below hb); have hA3 : At w1 (w.heap.size + 1) y.cells := At.keeps (At.new (by simp)) (keeps_below hb); have hB1 : Below w.heap.size w w1 := Below.trans (by repeat (first | with_reducible exact Below.refl _ _ | with_reducible assumption | with_reducible refine below_more' ?_ (by go_size) | with_reducible refine bel_alloc ?_ _ (by go_size) | with_reducible refine Below.drew ?_ | with_reducible refine Below.setCell ?_ (by go_size) _ | with_reducible refine below_drewN ?_ _)) (hb.mono (by simp; omega)); clear hb) | (go_at_call 7; refine (law_knownF (w.heap.size + 1 + 1) w1 (.inr hF)).mono ?_; rintro e w2 ⟨rfl, hR, hT⟩; replace hA2 := hA2.turn (by omega) hT; replace hA3 := hA3.turn (by omega) hT; have x0 := hA2 0 _ rfl; have x1 := hA2 1 _ rfl; have x2 := hA2 2 _ rfl; have x3 := hA2 3 _ rfl; have x4 := hA2 4 _ rfl; have y0 := hA3 0 _ rfl; have y1 := hA3 1 _ rfl; have y2 := hA3 2 _ rfl; have y3 := hA3 3 _ rfl; have y4 := hA3 4 _ rfl; have hB2 : Below w.heap.size w w2 := hB1.trans (hT.base (by omega) (by omega)); have l2 := cell_lt x0; have l3 := cell_lt y0; clear hB1 hF hT hs1) | (go_at_call_of 8 (Value.agg #[Value.int .i64 (x).tag, Value.int .i64 (x).num, Value.string (x).str, Value.bool (x).is, Value.int .i64 (x).code]); refine (ref02_May x HX.out _).mono ?_; rintro e w3 ⟨rfl, hb⟩; obtain ⟨l5, k5, rfl⟩ := more_of_below hb; clear hb) | (go_at_call_of 8 (Value.agg #[Value.int .i64 (y).tag, Value.int .i64 (y).num, Value.string (y).str, Value.bool (y).is, Value.int .i64 (y).code]); refine (ref02_May y HY.out _).mono ?_; rintro e w3 ⟨rfl, hb⟩; obtain ⟨l5, k5, rfl⟩ := more_of_below hb; clear hb) | (go_at_call_of 9 (Value.agg #[Value.int .i64 (x).tag, Value.int .i64 (x).num, Value.string (x).str, Value.bool (x).is, Value.int .i64 (x).code]); refine (law_single x _).mono ?_; rintro e w3 ⟨rfl, hb⟩; have hs3 := hb.size; replace hR := hR.below (Below.trans (by repeat (first | with_reducible exact Below.refl _ _ | with_reducible assumption | with_reducible refine below_more' ?_ (by go_size) | with_reducible refine bel_alloc ?_ _ (by go_size) | with_reducible refine Below.drew ?_ | with_reducible refine Below.setCell ?_ (by go_size) _ | with_reducible refine below_drewN ?_ _)) (hb.mono (by go_size))); replace hB2 := Below.trans (show Below w.heap.size w _ from (by repeat (first | with_reducible exact Below.refl _ _ | with_reducible assumption | with_reducible refine below_more' ?_ (by go_size) | with_reducible refine bel_alloc ?_ _ (by go_size) | with_reducible refine Below.drew ?_ | with_reducible refine Below.setCell ?_ (by go_size) _ | with_reducible refine below_drewN ?_ _))) (hb.mono (by go_size)); replace hA2 := hA2.keeps (Keeps.trans (by repeat (first | with_reducible exact keeps_refl _ | with_reducible assumption | with_reducible refine keeps_alloc ?_ _ | with_reducible refine keeps_more ?_ _ _ | with_reducible refine keeps_drew ?_ | with_reducible refine keeps_drewN ?_ _)) (keeps_below hb)); replace hA3 := hA3.keeps (Keeps.trans (by repeat (first | with_reducible exact keeps_refl _ | with_reducible assumption | with_reducible refine keeps_alloc ?_ _ | with_reducible refine keeps_more ?_ _ _ | with_reducible refine keeps_drew ?_ | with_reducible refine keeps_drewN ?_ _)) (keeps_below hb)); clear x0 x1 x2 x3 x4 y0 y1 y2 y3 y4 l2 l3; have x0 := hA2 0 _ rfl; have x1 := hA2 1 _ rfl; have x2 := hA2 2 _ rfl; have x3 := hA2 3 _ rfl; have x4 := hA2 4 _ rfl; have y0 := hA3 0 _ rfl; have y1 := hA3 1 _ rfl; have y2 := hA3 2 _ rfl; have y3 := hA3 3 _ rfl; have y4 := hA3 4 _ rfl; have l2 := cell_lt x0; have l3 := cell_lt y0; clear hb) | (go_at_call_of 9 (Value.agg #[Value.int .i64 (y).tag, Value.int .i64 (y).num, Value.string (y).str, Value.bool (y).is, Value.int .i64 (y).code]); refine (law_single y _).mono ?_; rintro e w4 ⟨rfl, hb⟩; have hs3 := hb.size; replace hR := hR.below (Below.trans (by repeat (first | with_reducible exact Below.refl _ _ | with_reducible assumption | with_reducible refine below_more' ?_ (by go_size) | with_reducible refine bel_alloc ?_ _ (by go_size) | with_reducible refine Below.drew ?_ | with_reducible refine Below.setCell ?_ (by go_size) _ | with_reducible refine below_drewN ?_ _)) (hb.mono (by go_size))); replace hB2 := Below.trans (show Below w.heap.size w _ from (by repeat (first | with_reducible exact Below.refl _ _ | with_reducible assumption | with_reducible refine below_more' ?_ (by go_size) | with_reducible refine bel_alloc ?_ _ (by go_size) | with_reducible refine Below.drew ?_ | with_reducible refine Below.setCell ?_ (by go_size) _ | with_reducible refine below_drewN ?_ _))) (hb.mono (by go_size)); replace hA2 := hA2.keeps (Keeps.trans (by repeat (first | with_reducible exact keeps_refl _ | with_reducible assumption | with_reducible refine keeps_alloc ?_ _ | with_reducible refine keeps_more ?_ _ _ | with_reducible refine keeps_drew ?_ | with_reducible refine keeps_drewN ?_ _)) (keeps_below hb)); replace hA3 := hA3.keeps (Keeps.trans (by repeat (first | with_reducible exact keeps_refl _ | with_reducible assumption | with_reducible refine keeps_alloc ?_ _ | with_reducible refine keeps_more ?_ _ _ | with_reducible refine keeps_drew ?_ | with_reducible refine keeps_drewN ?_ _)) (keeps_below hb)); clear x0 x1 x2 x3 x4 y0 y1 y2 y3 y4 l2 l3; have x0 := hA2 0 _ rfl; have x1 := hA2 1 _ rfl; have x2 := hA2 2 _ rfl; have x3 := hA2 3 _ rfl; have x4 := hA2 4 _ rfl; have y0 := hA3 0 _ rfl; have y1 := hA3 1 _ rfl; have y2 := hA3 2 _ rfl; have y3 := hA3 3 _ rfl; have y4 := hA3 4 _ rfl; have l2 := cell_lt x0; have l3 := cell_lt y0; have hA6 : At w4 w3.heap.size (aCells x) := At.keeps (At.new rfl) (keeps_below hb); have l6 : w3.heap.size < w4.heap.size := cell_lt (hA6 0 _ rfl); clear hb))
      have hTR : TrRel x y w (w.heap.size + 1 + 1) w.heap.size (w.heap.size + 1) w3.heap.size w4.heap.size (w4.heap.size + 1) ((w4.alloc (.cells #[.bool false, .int .i64 y.tag, .int .i64 y.num, .string y.str, .bool y.is, .int .i64 y.code, .int .i64 0, .int .i64 0, .int .i64 0, .int .i64 0, .slice none 0 0] 34)).alloc (.cells #[.string ⟨#[73, 83, 69, 82, 82]⟩, .string ⟨#[73, 83, 66, 76, 65, 78, 75]⟩, .string ⟨#[73, 83, 78, 85, 77]⟩, .string ⟨#[73, 83, 84, 69, 88, 84]⟩, .string ⟨#[73, 83, 66, 79, 79, 76]⟩] 9)) := ⟨hR.below (by repeat (first | with_reducible exact Below.refl _ _ | with_reducible assumption | with_reducible refine below_more' ?_ (by go_size) | with_reducible refine bel_alloc ?_ _ (by go_size) | with_reducible refine Below.drew ?_ | with_reducible refine Below.setCell ?_ (by go_size) _ | with_reducible refine below_drewN ?_ _)), (by repeat (first | with_reducible exact Below.refl _ _ | with_reducible assumption | with_reducible refine below_more' ?_ (by go_size) | with_reducible refine bel_alloc ?_ _ (by go_size) | with_reducible refine Below.drew ?_ | with_reducible refine Below.setCell ?_ (by go_size) _ | with_reducible refine below_drewN ?_ _)), hA2.keeps (by repeat (first | with_reducible exact keeps_refl _ | with_reducible assumption | with_reducible refine keeps_alloc ?_ _ | with_reducible refine keeps_more ?_ _ _ | with_reducible refine keeps_drew ?_ | with_reducible refine keeps_drewN ?_ _)), hA3.keeps (by repeat (first | with_reducible exact keeps_refl _ | with_reducible assumption | with_reducible refine keeps_alloc ?_ _ | with_reducible refine keeps_more ?_ _ _ | with_reducible refine keeps_drew ?_ | with_reducible refine keeps_drewN ?_ _)), hA6.keeps (by repeat (first | with_reducible exact keeps_refl _ | with_reducible assumption | with_reducible refine keeps_alloc ?_ _ | with_reducible refine keeps_more ?_ _ _ | with_reducible refine keeps_drew ?_ | with_reducible refine keeps_drewN ?_ _)), (show At _ _ (aCells y) from At.new rfl).keeps (by repeat (first | with_reducible exact keeps_refl _ | with_reducible assumption | with_reducible refine keeps_alloc ?_ _ | with_reducible refine keeps_more ?_ _ _ | with_reducible refine keeps_drew ?_ | with_reducible refine keeps_drewN ?_ _)), At.new (by simp)⟩
      clear x0 x1 x2 x3 x4 y0 y1 y2 y3 y4 l2 l3 l6 hA2 hA3 hA6 hR hB2 hs3 HX HY
      go_loopw [10, 9] (fun t10 t9 wr => ∃ k : Nat, k ≤ 5 ∧ t10 = .int .i64 k ∧ t9 = .int .i64 (yesN x k : Nat) ∧ TrRel x y w (w.heap.size + 1 + 1) w.heap.size (w.heap.size + 1) w3.heap.size w4.heap.size (w4.heap.size + 1) wr) (fun t10 _ _ => 5 - (intOf t10).toNat)
      case atStart => exact ⟨0, by omega, rfl, rfl, hTR⟩
      case round =>
        obtain ⟨k, hk, rfl, rfl, hTR⟩ := hrel
        obtain ⟨hR, hBW, hA2, hA3, hA6, hA7, hA8⟩ := id hTR
        have HTR := Lib.hid hTR
        clear hTR
        by_cases hlt : k < 5
        · obtain ⟨s, hns, hos, hts⟩ := tag_at k hlt
          have HO := Lib.hid (And.intro hos hts)
          obtain ⟨q, hq⟩ : ∃ q, q = (x.tag == tagK k) := ⟨_, rfl⟩
          have hnm := hA8 k _ hns
          have a0 := hA6 0 _ rfl
          have a1 := hA6 1 _ rfl
          have a2 := hA6 2 _ rfl
          have a3 := hA6 3 _ rfl
          have a4 := hA6 4 _ rfl
          have a5 := hA6 5 _ rfl
          have a6 := hA6 6 _ rfl
          have a7 := hA6 7 _ rfl
          have a8 := hA6 8 _ rfl
          have a9 := hA6 9 _ rfl
          have a10 := hA6 10 _ rfl
          have l6 := cell_lt a0
          have l8 := cell_lt hnm
          have l7 : w4.heap.size < wr.heap.size := by omega
          have HY := Lib.hid (yesN_succ x k)
          have HQ := Lib.hid hq
          have hy0 := yesN_le x k
          clear hA2 hA3 hA6 hA7 hA8 hq hBW hns hos hts
          go_upto_region 13 with fail
          go_cut [11] (fun s11 wx => ∃ p11 : Nat, s11 = .pointer (some ⟨p11, 0, none⟩) ∧ At wx p11 (V.cells (truthG q)) ∧ TrRel x y w (w.heap.size + 1 + 1) w.heap.size (w.heap.size + 1) w3.heap.size w4.heap.size (w4.heap.size + 1) wx)
          case first =>
            go_region_held3 (fun w' => w'.cell? ⟨w4.heap.size + 1, k, none⟩ = some (.string s) ∧ w'.cell? ⟨w3.heap.size, 0, none⟩ = some (.bool false) ∧ w'.cell? ⟨w3.heap.size, 1, none⟩ = some (.int .i64 x.tag) ∧ w'.cell? ⟨w3.heap.size, 2, none⟩ = some (.int .i64 x.num) ∧ w'.cell? ⟨w3.heap.size, 3, none⟩ = some (.string x.str) ∧ w'.cell? ⟨w3.heap.size, 4, none⟩ = some (.bool x.is) ∧ w'.cell? ⟨w3.heap.size, 5, none⟩ = some (.int .i64 x.code) ∧ w'.cell? ⟨w3.heap.size, 6, none⟩ = some (.int .i64 0) ∧ w'.cell? ⟨w3.heap.size, 7, none⟩ = some (.int .i64 0) ∧ w'.cell? ⟨w3.heap.size, 8, none⟩ = some (.int .i64 0) ∧ w'.cell? ⟨w3.heap.size, 9, none⟩ = some (.int .i64 0) ∧ w'.cell? ⟨w3.heap.size, 10, none⟩ = some (.slice none 0 0))
              (first | ((try dsimp only); refine ⟨?_, ?_, ?_, ?_, ?_, ?_, ?_, ?_, ?_, ?_, ?_, ?_⟩ <;> (repeat (first | with_reducible assumption | with_reducible refine cell_drewI ?_ | with_reducible refine cell_drewNI ?_ _ | with_reducible refine cell_allocI ?_ _ | with_reducible refine cell_moreI ?_ _ _ | (with_reducible refine cell_setI ?_ (by first | omega | (simp; omega)))))))
              (first | (go_at_call 10; refine (call_is _ _ ?_ _ _ _ (tagK k) s HO.out.1 HO.out.2 x hmx ?_).mono ?_; (exact hR.below (by repeat (first | with_reducible exact Below.refl _ _ | with_reducible assumption | with_reducible refine below_more' ?_ (by go_size) | with_reducible refine bel_alloc ?_ _ (by go_size) | with_reducible refine Below.drew ?_ | with_reducible refine Below.setCell ?_ (by go_size) _ | with_reducible refine below_drewN ?_ _))); (focus (refine reads_at ?_ rfl ?_; ((repeat (first | rw [sz_alloc] | rw [sz_more] | rw [sz_drew] | rw [sz_drewN] | rw [List.length_append])); first | done | omega); (repeat (first | exact At.new (by ((repeat (first | rw [sz_alloc] | rw [sz_more] | rw [sz_drew] | rw [sz_drewN] | rw [List.length_append])); first | done | omega)) | with_reducible refine At.drewI ?_ | with_reducible refine At.drewNI ?_ _ | with_reducible refine At.allocI ?_ _ | with_reducible refine At.moreI ?_ _ _)); done)); rw [← HQ.out]; rintro e w5 ⟨rfl, hb⟩; obtain ⟨l5, k5, rfl⟩ := more_of_below hb; clear hb))
            all_goals (go_wp2_with fail; go_meet; exact ⟨_, rfl, by (repeat (first | exact At.new (by ((repeat (first | rw [sz_alloc] | rw [sz_more] | rw [sz_drew] | rw [sz_drewN] | rw [List.length_append])); first | done | omega)) | with_reducible refine At.drewI ?_ | with_reducible refine At.drewNI ?_ _ | with_reducible refine At.allocI ?_ _ | with_reducible refine At.moreI ?_ _ _)), HTR.out.below (by repeat (first | with_reducible exact Below.refl _ _ | with_reducible assumption | with_reducible refine below_more' ?_ (by go_size) | with_reducible refine bel_alloc ?_ _ (by go_size) | with_reducible refine Below.drew ?_ | with_reducible refine Below.setCell ?_ (by go_size) _ | with_reducible refine below_drewN ?_ _))⟩)
          case rest =>
            obtain ⟨p11, rfl, hA11, hTR2⟩ := hcut
            have HT2 := Lib.hid hTR2
            have c0 := hA11 0 _ rfl
            have c1 := hA11 1 _ rfl
            have c2 := hA11 2 _ rfl
            have c3 := hA11 3 _ rfl
            have c4 := hA11 4 _ rfl
            have l11 := cell_lt c0
            clear hA11 hTR2 hR hnm a0 a1 a2 a3 a4 a5 a6 a7 a8 a9 a10 l6 l7 l8 HTR HY HO
            have hwr := wrap_y x k (by omega)
            cases q with
            | true =>
              have he := eq_tt
              go_wp2
              go_region_held3 (fun w' => w'.cell? ⟨p11, 0, none⟩ = some (.int .i64 (truthG true).tag) ∧ w'.cell? ⟨p11, 1, none⟩ = some (.int .i64 (truthG true).num) ∧ w'.cell? ⟨p11, 2, none⟩ = some (.string (truthG true).str) ∧ w'.cell? ⟨p11, 3, none⟩ = some (.bool (truthG true).is) ∧ w'.cell? ⟨p11, 4, none⟩ = some (.int .i64 (truthG true).code))
                (first | ((try dsimp only); refine ⟨?_, ?_, ?_, ?_, ?_⟩ <;> (repeat (first | with_reducible assumption | with_reducible refine cell_drewI ?_ | with_reducible refine cell_drewNI ?_ _ | with_reducible refine cell_allocI ?_ _ | with_reducible refine cell_moreI ?_ _ _ | (with_reducible refine cell_setI ?_ (by first | omega | (simp; omega)))))))
                (first | (go_at_call 11; refine (law_truth _ _).mono ?_; rintro e w5 ⟨rfl, hb⟩; obtain ⟨l5, k5, rfl⟩ := more_of_below hb; clear hb))
              all_goals go_wp2
              all_goals exact ⟨⟨k + 1, by omega, by go_num, congrArg (Value.int .i64) (yes_t HQ.out rfl), HT2.out.below (by repeat (first | with_reducible exact Below.refl _ _ | with_reducible assumption | with_reducible refine below_more' ?_ (by go_size) | with_reducible refine bel_alloc ?_ _ (by go_size) | with_reducible refine Below.drew ?_ | with_reducible refine Below.setCell ?_ (by go_size) _ | with_reducible refine below_drewN ?_ _))⟩, by simp [intOf]; omega⟩
            | false =>
              have he := eq_ft
              have hn := ne_ff
              go_wp2
              go_region_held3 (fun w' => w'.cell? ⟨p11, 0, none⟩ = some (.int .i64 (truthG false).tag) ∧ w'.cell? ⟨p11, 1, none⟩ = some (.int .i64 (truthG false).num) ∧ w'.cell? ⟨p11, 2, none⟩ = some (.string (truthG false).str) ∧ w'.cell? ⟨p11, 3, none⟩ = some (.bool (truthG false).is) ∧ w'.cell? ⟨p11, 4, none⟩ = some (.int .i64 (truthG false).code))
                (first | ((try dsimp only); refine ⟨?_, ?_, ?_, ?_, ?_⟩ <;> (repeat (first | with_reducible assumption | with_reducible refine cell_drewI ?_ | with_reducible refine cell_drewNI ?_ _ | with_reducible refine cell_allocI ?_ _ | with_reducible refine cell_moreI ?_ _ _ | (with_reducible refine cell_setI ?_ (by first | omega | (simp; omega)))))))
                (first | (go_at_call 11; refine (law_truth _ _).mono ?_; rintro e w5 ⟨rfl, hb⟩; obtain ⟨l5, k5, rfl⟩ := more_of_below hb; clear hb))
              all_goals go_wp2
              all_goals go_region_held3 (fun w' => w'.cell? ⟨p11, 0, none⟩ = some (.int .i64 (truthG false).tag) ∧ w'.cell? ⟨p11, 1, none⟩ = some (.int .i64 (truthG false).num) ∧ w'.cell? ⟨p11, 2, none⟩ = some (.string (truthG false).str) ∧ w'.cell? ⟨p11, 3, none⟩ = some (.bool (truthG false).is) ∧ w'.cell? ⟨p11, 4, none⟩ = some (.int .i64 (truthG false).code))
                (first | ((try dsimp only); refine ⟨?_, ?_, ?_, ?_, ?_⟩ <;> (repeat (first | with_reducible assumption | with_reducible refine cell_drewI ?_ | with_reducible refine cell_drewNI ?_ _ | with_reducible refine cell_allocI ?_ _ | with_reducible refine cell_moreI ?_ _ _ | (with_reducible refine cell_setI ?_ (by first | omega | (simp; omega)))))))
                (first | (go_at_call 11; refine (law_truth _ _).mono ?_; rintro e w5 ⟨rfl, hb⟩; obtain ⟨l5, k5, rfl⟩ := more_of_below hb; clear hb))
              all_goals go_wp2
              all_goals exact ⟨⟨k + 1, by omega, by go_num, congrArg (Value.int .i64) (yes_f HQ.out rfl), HT2.out.below (by repeat (first | with_reducible exact Below.refl _ _ | with_reducible assumption | with_reducible refine below_more' ?_ (by go_size) | with_reducible refine bel_alloc ?_ _ (by go_size) | with_reducible refine Below.drew ?_ | with_reducible refine Below.setCell ?_ (by go_size) _ | with_reducible refine below_drewN ?_ _))⟩, by simp [intOf]; omega⟩
        · obtain rfl : k = 5 := by omega
          have hTR := HTR.out
          rw [show yesN x 5 = 1 from yesN_all x hmx]
          clear HTR hR hBW hA2 hA3 hA6 hA7 hA8
          obtain ⟨q, hq⟩ : ∃ q, q = truthG (x.tag == 4) := ⟨_, rfl⟩
          have hmt : mayG q = true := by rw [hq]; exact may_truth _
          have HQ := Lib.hid hq
          clear hq
          obtain ⟨hR, hBW, hA2, hA3, hA6, hA7, hA8⟩ := id hTR
          have a0 := hA6 0 _ rfl
          have a1 := hA6 1 _ rfl
          have a2 := hA6 2 _ rfl
          have a3 := hA6 3 _ rfl
          have a4 := hA6 4 _ rfl
          have a5 := hA6 5 _ rfl
          have a6 := hA6 6 _ rfl
          have a7 := hA6 7 _ rfl
          have a8 := hA6 8 _ rfl
          have a9 := hA6 9 _ rfl
          have a10 := hA6 10 _ rfl
          have l6 := cell_lt a0
          have HTR := Lib.hid hTR
          clear hA2 hA3 hA6 hA7 hA8 hBW hTR
          go_upto_region 18 with fail
          go_cut [12] (fun s12 wx => ∃ p : Nat, s12 = .pointer (some ⟨p, 0, none⟩) ∧ At wx p (V.cells q) ∧ TrRel x y w (w.heap.size + 1 + 1) w.heap.size (w.heap.size + 1) w3.heap.size w4.heap.size (w4.heap.size + 1) wx)
          case first =>
            go_wp2_with (first | (go_at_call 10; refine (call_is _ _ ?_ _ _ _ 4 ⟨#[73, 83, 69, 82, 82]⟩ rfl (by decide +kernel) x hmx ?_).mono ?_; (exact hR.below (by repeat (first | with_reducible exact Below.refl _ _ | with_reducible assumption | with_reducible refine below_more' ?_ (by go_size) | with_reducible refine bel_alloc ?_ _ (by go_size) | with_reducible refine Below.drew ?_ | with_reducible refine Below.setCell ?_ (by go_size) _ | with_reducible refine below_drewN ?_ _))); (focus (refine reads_at ?_ rfl ?_; ((repeat (first | rw [sz_alloc] | rw [sz_more] | rw [sz_drew] | rw [sz_drewN] | rw [List.length_append])); first | done | omega); (repeat (first | exact At.new (by ((repeat (first | rw [sz_alloc] | rw [sz_more] | rw [sz_drew] | rw [sz_drewN] | rw [List.length_append])); first | done | omega)) | with_reducible refine At.drewI ?_ | with_reducible refine At.drewNI ?_ _ | with_reducible refine At.allocI ?_ _ | with_reducible refine At.moreI ?_ _ _)); done)); rw [← HQ.out]; rintro e w5 ⟨rfl, hb⟩; obtain ⟨l5, k5, rfl⟩ := more_of_below hb; clear hb))
            go_meet
            exact ⟨_, rfl, by (repeat (first | exact At.new (by ((repeat (first | rw [sz_alloc] | rw [sz_more] | rw [sz_drew] | rw [sz_drewN] | rw [List.length_append])); first | done | omega)) | with_reducible refine At.drewI ?_ | with_reducible refine At.drewNI ?_ _ | with_reducible refine At.allocI ?_ _ | with_reducible refine At.moreI ?_ _ _)), HTR.out.below (by repeat (first | with_reducible exact Below.refl _ _ | with_reducible assumption | with_reducible refine below_more' ?_ (by go_size) | with_reducible refine bel_alloc ?_ _ (by go_size) | with_reducible refine Below.drew ?_ | with_reducible refine Below.setCell ?_ (by go_size) _ | with_reducible refine below_drewN ?_ _))⟩
          clear HTR
          obtain ⟨p12, rfl, hp12, hTR⟩ := hcut
          clear a0 a1 a2 a3 a4 a5 a6 a7 a8 a9 a10 l6 hR
          obtain ⟨hR, hBW, hA2, hA3, hA6, hA7, hA8⟩ := id hTR
          have a0 := hA6 0 _ rfl
          have a1 := hA6 1 _ rfl
          have a2 := hA6 2 _ rfl
          have a3 := hA6 3 _ rfl
          have a4 := hA6 4 _ rfl
          have a5 := hA6 5 _ rfl
          have a6 := hA6 6 _ rfl
          have a7 := hA6 7 _ rfl
          have a8 := hA6 8 _ rfl
          have a9 := hA6 9 _ rfl
          have a10 := hA6 10 _ rfl
          have l6 := cell_lt a0
          have b0 := hA7 0 _ rfl
          have b1 := hA7 1 _ rfl
          have b2 := hA7 2 _ rfl
          have b3 := hA7 3 _ rfl
          have b4 := hA7 4 _ rfl
          have b5 := hA7 5 _ rfl
          have b6 := hA7 6 _ rfl
          have b7 := hA7 7 _ rfl
          have b8 := hA7 8 _ rfl
          have b9 := hA7 9 _ rfl
          have b10 := hA7 10 _ rfl
          have l7 := cell_lt b0
          have HTR := Lib.hid hTR
          clear hA2 hA3 hA6 hA7 hA8 hBW hTR
          have c0 := hp12 0 _ rfl
          have c1 := hp12 1 _ rfl
          have c2 := hp12 2 _ rfl
          have c3 := hp12 3 _ rfl
          have c4 := hp12 4 _ rfl
          have l12 := cell_lt c0
          clear hp12
          have hn : ∀ w, (binOp .neq 25 (Value.agg #[Value.int .i64 (iferrG [x, y]).tag, Value.int .i64 (iferrG [x, y]).num, Value.string (iferrG [x, y]).str, Value.bool (iferrG [x, y]).is, Value.int .i64 (iferrG [x, y]).code]) (Value.agg #[Value.int .i64 (choiceG [q, y, x]).tag, Value.int .i64 (choiceG [q, y, x]).num, Value.string (choiceG [q, y, x]).str, Value.bool (choiceG [q, y, x]).is, Value.int .i64 (choiceG [q, y, x]).code])).run Tryz.prog w = .ok (.bool false) w := fun w => by rw [law_iferr, ← HQ.out]; exact ne_vv _ w
          go_upto_region 19 with fail
          go_cut [78] (fun s78 wx => s78 = .bool false ∧ TrRel x y w (w.heap.size + 1 + 1) w.heap.size (w.heap.size + 1) w3.heap.size w4.heap.size (w4.heap.size + 1) wx)
          case first =>
            go_region_held3 (fun w' => w'.cell? ⟨w3.heap.size, 0, none⟩ = some (.bool false) ∧ w'.cell? ⟨w3.heap.size, 1, none⟩ = some (.int .i64 x.tag) ∧ w'.cell? ⟨w3.heap.size, 2, none⟩ = some (.int .i64 x.num) ∧ w'.cell? ⟨w3.heap.size, 3, none⟩ = some (.string x.str) ∧ w'.cell? ⟨w3.heap.size, 4, none⟩ = some (.bool x.is) ∧ w'.cell? ⟨w3.heap.size, 5, none⟩ = some (.int .i64 x.code) ∧ w'.cell? ⟨w3.heap.size, 6, none⟩ = some (.int .i64 0) ∧ w'.cell? ⟨w3.heap.size, 7, none⟩ = some (.int .i64 0) ∧ w'.cell? ⟨w3.heap.size, 8, none⟩ = some (.int .i64 0) ∧ w'.cell? ⟨w3.heap.size, 9, none⟩ = some (.int .i64 0) ∧ w'.cell? ⟨w3.heap.size, 10, none⟩ = some (.slice none 0 0) ∧ w'.cell? ⟨w4.heap.size, 0, none⟩ = some (.bool false) ∧ w'.cell? ⟨w4.heap.size, 1, none⟩ = some (.int .i64 y.tag) ∧ w'.cell? ⟨w4.heap.size, 2, none⟩ = some (.int .i64 y.num) ∧ w'.cell? ⟨w4.heap.size, 3, none⟩ = some (.string y.str) ∧ w'.cell? ⟨w4.heap.size, 4, none⟩ = some (.bool y.is) ∧ w'.cell? ⟨w4.heap.size, 5, none⟩ = some (.int .i64 y.code) ∧ w'.cell? ⟨w4.heap.size, 6, none⟩ = some (.int .i64 0) ∧ w'.cell? ⟨w4.heap.size, 7, none⟩ = some (.int .i64 0) ∧ w'.cell? ⟨w4.heap.size, 8, none⟩ = some (.int .i64 0) ∧ w'.cell? ⟨w4.heap.size, 9, none⟩ = some (.int .i64 0) ∧ w'.cell? ⟨w4.heap.size, 10, none⟩ = some (.slice none 0 0) ∧ w'.cell? ⟨p12, 0, none⟩ = some (.int .i64 (q).tag) ∧ w'.cell? ⟨p12, 1, none⟩ = some (.int .i64 (q).num) ∧ w'.cell? ⟨p12, 2, none⟩ = some (.string (q).str) ∧ w'.cell? ⟨p12, 3, none⟩ = some (.bool (q).is) ∧ w'.cell? ⟨p12, 4, none⟩ = some (.int .i64 (q).code))
              (first | ((try dsimp only); refine ⟨?_, ?_, ?_, ?_, ?_, ?_, ?_, ?_, ?_, ?_, ?_, ?_, ?_, ?_, ?_, ?_, ?_, ?_, ?_, ?_, ?_, ?_, ?_, ?_, ?_, ?_, ?_⟩ <;> (repeat (first | with_reducible assumption | with_reducible refine cell_drewI ?_ | with_reducible refine cell_drewNI ?_ _ | with_reducible refine cell_allocI ?_ _ | with_reducible refine cell_moreI ?_ _ _ | (with_reducible refine cell_setI ?_ (by first | omega | (simp; omega)))))))
              (first | (go_at_call_of 9 (Value.agg #[Value.int .i64 (q).tag, Value.int .i64 (q).num, Value.string (q).str, Value.bool (q).is, Value.int .i64 (q).code]); refine (law_single q _).mono ?_; rintro e w5 ⟨rfl, hb⟩; obtain ⟨l5, k5, rfl⟩ := more_of_below hb; clear hb) | (go_at_call_of 10 (Value.string ⟨#[73, 70, 69, 82, 82]⟩); refine (call_iferr _ _ ?_ _ _ _ x y hmx hmy ?_).mono ?_; (exact hR.below (by repeat (first | with_reducible exact Below.refl _ _ | with_reducible assumption | with_reducible refine below_more' ?_ (by go_size) | with_reducible refine bel_alloc ?_ _ (by go_size) | with_reducible refine Below.drew ?_ | with_reducible refine Below.setCell ?_ (by go_size) _ | with_reducible refine below_drewN ?_ _))); (focus (refine reads_at ?_ rfl ?_; ((repeat (first | rw [sz_alloc] | rw [sz_more] | rw [sz_drew] | rw [sz_drewN] | rw [List.length_append])); first | done | omega); (repeat (first | exact At.new (by ((repeat (first | rw [sz_alloc] | rw [sz_more] | rw [sz_drew] | rw [sz_drewN] | rw [List.length_append])); first | done | omega)) | with_reducible refine At.drewI ?_ | with_reducible refine At.drewNI ?_ _ | with_reducible refine At.allocI ?_ _ | with_reducible refine At.moreI ?_ _ _)); done)); rintro e w5 ⟨rfl, hb⟩; obtain ⟨l5, k5, rfl⟩ := more_of_below hb; clear hb) | (go_at_call_of 10 (Value.string ⟨#[73, 70]⟩); refine (call_if3 _ _ ?_ _ _ _ q y x hmt hmy hmx ?_).mono ?_; (exact hR.below (by repeat (first | with_reducible exact Below.refl _ _ | with_reducible assumption | with_reducible refine below_more' ?_ (by go_size) | with_reducible refine bel_alloc ?_ _ (by go_size) | with_reducible refine Below.drew ?_ | with_reducible refine Below.setCell ?_ (by go_size) _ | with_reducible refine below_drewN ?_ _))); (focus (refine reads_at ?_ rfl ?_; ((repeat (first | rw [sz_alloc] | rw [sz_more] | rw [sz_drew] | rw [sz_drewN] | rw [List.length_append])); first | done | omega); (repeat (first | exact At.new (by ((repeat (first | rw [sz_alloc] | rw [sz_more] | rw [sz_drew] | rw [sz_drewN] | rw [List.length_append])); first | done | omega)) | with_reducible refine At.drewI ?_ | with_reducible refine At.drewNI ?_ _ | with_reducible refine At.allocI ?_ _ | with_reducible refine At.moreI ?_ _ _)); done)); rintro e w5 ⟨rfl, hb⟩; obtain ⟨l5, k5, rfl⟩ := more_of_below hb; clear hb))
            all_goals (go_wp2_with fail; go_meet; exact ⟨rfl, HTR.out.below (by repeat (first | with_reducible exact Below.refl _ _ | with_reducible assumption | with_reducible refine below_more' ?_ (by go_size) | with_reducible refine bel_alloc ?_ _ (by go_size) | with_reducible refine Below.drew ?_ | with_reducible refine Below.setCell ?_ (by go_size) _ | with_reducible refine below_drewN ?_ _))⟩)
          clear HTR hn
          obtain ⟨rfl, hTR⟩ := hcut
          clear a0 a1 a2 a3 a4 a5 a6 a7 a8 a9 a10 b0 b1 b2 b3 b4 b5 b6 b7 b8 b9 b10 c0 c1 c2 c3 c4 l6 l7 l12 hR hmt HQ
          obtain ⟨nx, hnx⟩ : ∃ v, v = truthsG fyNot [x] := ⟨_, rfl⟩
          obtain ⟨ny, hny⟩ : ∃ v, v = truthsG fyNot [y] := ⟨_, rfl⟩
          obtain ⟨an, han⟩ : ∃ v, v = truthsG fyAnd [x, y] := ⟨_, rfl⟩
          have HNX := Lib.hid hnx
          have HNY := Lib.hid hny
          have HAN := Lib.hid han
          have hmnx : mayG nx = true := by rw [hnx]; exact may_truths _ _ (by simp [hmx])
          have hmny : mayG ny = true := by rw [hny]; exact may_truths _ _ (by simp [hmy])
          have hman : mayG an = true := by rw [han]; exact may_truths _ _ (by simp [hmx, hmy])
          clear hnx hny han
          obtain ⟨hR, hBW, hA2, hA3, hA6, hA7, hA8⟩ := id hTR
          have a0 := hA6 0 _ rfl
          have a1 := hA6 1 _ rfl
          have a2 := hA6 2 _ rfl
          have a3 := hA6 3 _ rfl
          have a4 := hA6 4 _ rfl
          have a5 := hA6 5 _ rfl
          have a6 := hA6 6 _ rfl
          have a7 := hA6 7 _ rfl
          have a8 := hA6 8 _ rfl
          have a9 := hA6 9 _ rfl
          have a10 := hA6 10 _ rfl
          have l6 := cell_lt a0
          have HTR := Lib.hid hTR
          clear hA2 hA3 hA6 hA7 hA8 hBW hTR
          go_upto_region 21 with fail
          go_cut [13] (fun s13 wx => ∃ p : Nat, s13 = .pointer (some ⟨p, 0, none⟩) ∧ At wx p (V.cells nx) ∧ TrRel x y w (w.heap.size + 1 + 1) w.heap.size (w.heap.size + 1) w3.heap.size w4.heap.size (w4.heap.size + 1) wx)
          case first =>
            go_wp2_with (first | (go_at_call 10; refine (call_not _ _ ?_ _ _ _ x hmx ?_).mono ?_; (exact hR.below (by repeat (first | with_reducible exact Below.refl _ _ | with_reducible assumption | with_reducible refine below_more' ?_ (by go_size) | with_reducible refine bel_alloc ?_ _ (by go_size) | with_reducible refine Below.drew ?_ | with_reducible refine Below.setCell ?_ (by go_size) _ | with_reducible refine below_drewN ?_ _))); (focus (refine reads_at ?_ rfl ?_; ((repeat (first | rw [sz_alloc] | rw [sz_more] | rw [sz_drew] | rw [sz_drewN] | rw [List.length_append])); first | done | omega); (repeat (first | exact At.new (by ((repeat (first | rw [sz_alloc] | rw [sz_more] | rw [sz_drew] | rw [sz_drewN] | rw [List.length_append])); first | done | omega)) | with_reducible refine At.drewI ?_ | with_reducible refine At.drewNI ?_ _ | with_reducible refine At.allocI ?_ _ | with_reducible refine At.moreI ?_ _ _)); done)); rw [← HNX.out]; rintro e w5 ⟨rfl, hb⟩; obtain ⟨l5, k5, rfl⟩ := more_of_below hb; clear hb))
            go_meet
            exact ⟨_, rfl, by (repeat (first | exact At.new (by ((repeat (first | rw [sz_alloc] | rw [sz_more] | rw [sz_drew] | rw [sz_drewN] | rw [List.length_append])); first | done | omega)) | with_reducible refine At.drewI ?_ | with_reducible refine At.drewNI ?_ _ | with_reducible refine At.allocI ?_ _ | with_reducible refine At.moreI ?_ _ _)), HTR.out.below (by repeat (first | with_reducible exact Below.refl _ _ | with_reducible assumption | with_reducible refine below_more' ?_ (by go_size) | with_reducible refine bel_alloc ?_ _ (by go_size) | with_reducible refine Below.drew ?_ | with_reducible refine Below.setCell ?_ (by go_size) _ | with_reducible refine below_drewN ?_ _))⟩
          clear HTR
          obtain ⟨p13, rfl, hp13, hTR⟩ := hcut
          clear a0 a1 a2 a3 a4 a5 a6 a7 a8 a9 a10 l6
          clear hR
          obtain ⟨hR, hBW, hA2, hA3, hA6, hA7, hA8⟩ := id hTR
          have b0 := hA7 0 _ rfl
          have b1 := hA7 1 _ rfl
          have b2 := hA7 2 _ rfl
          have b3 := hA7 3 _ rfl
          have b4 := hA7 4 _ rfl
          have b5 := hA7 5 _ rfl
          have b6 := hA7 6 _ rfl
          have b7 := hA7 7 _ rfl
          have b8 := hA7 8 _ rfl
          have b9 := hA7 9 _ rfl
          have b10 := hA7 10 _ rfl
          have l7 := cell_lt b0
          have HTR := Lib.hid hTR
          clear hA2 hA3 hA6 hA7 hA8 hBW hTR
          go_upto_region 22 with fail
          go_cut [14] (fun s14 wx => ∃ p : Nat, s14 = .pointer (some ⟨p, 0, none⟩) ∧ At wx p (V.cells ny) ∧ At wx p13 (V.cells nx) ∧ TrRel x y w (w.heap.size + 1 + 1) w.heap.size (w.heap.size + 1) w3.heap.size w4.heap.size (w4.heap.size + 1) wx)
          case first =>
            go_wp2_with (first | (go_at_call 10; refine (call_not _ _ ?_ _ _ _ y hmy ?_).mono ?_; (exact hR.below (by repeat (first | with_reducible exact Below.refl _ _ | with_reducible assumption | with_reducible refine below_more' ?_ (by go_size) | with_reducible refine bel_alloc ?_ _ (by go_size) | with_reducible refine Below.drew ?_ | with_reducible refine Below.setCell ?_ (by go_size) _ | with_reducible refine below_drewN ?_ _))); (focus (refine reads_at ?_ rfl ?_; ((repeat (first | rw [sz_alloc] | rw [sz_more] | rw [sz_drew] | rw [sz_drewN] | rw [List.length_append])); first | done | omega); (repeat (first | exact At.new (by ((repeat (first | rw [sz_alloc] | rw [sz_more] | rw [sz_drew] | rw [sz_drewN] | rw [List.length_append])); first | done | omega)) | with_reducible refine At.drewI ?_ | with_reducible refine At.drewNI ?_ _ | with_reducible refine At.allocI ?_ _ | with_reducible refine At.moreI ?_ _ _)); done)); rw [← HNY.out]; rintro e w5 ⟨rfl, hb⟩; obtain ⟨l5, k5, rfl⟩ := more_of_below hb; clear hb))
            go_meet
            exact ⟨_, rfl, by (repeat (first | exact At.new (by ((repeat (first | rw [sz_alloc] | rw [sz_more] | rw [sz_drew] | rw [sz_drewN] | rw [List.length_append])); first | done | omega)) | with_reducible refine At.drewI ?_ | with_reducible refine At.drewNI ?_ _ | with_reducible refine At.allocI ?_ _ | with_reducible refine At.moreI ?_ _ _)), hp13.keeps (by repeat (first | with_reducible exact keeps_refl _ | with_reducible assumption | with_reducible refine keeps_alloc ?_ _ | with_reducible refine keeps_more ?_ _ _ | with_reducible refine keeps_drew ?_ | with_reducible refine keeps_drewN ?_ _)), HTR.out.below (by repeat (first | with_reducible exact Below.refl _ _ | with_reducible assumption | with_reducible refine below_more' ?_ (by go_size) | with_reducible refine bel_alloc ?_ _ (by go_size) | with_reducible refine Below.drew ?_ | with_reducible refine Below.setCell ?_ (by go_size) _ | with_reducible refine below_drewN ?_ _))⟩
          clear HTR
          obtain ⟨p14, rfl, hp14, hp13, hTR⟩ := hcut
          clear b0 b1 b2 b3 b4 b5 b6 b7 b8 b9 b10 l7
          clear hR
          obtain ⟨hR, hBW, hA2, hA3, hA6, hA7, hA8⟩ := id hTR
          have a0 := hA6 0 _ rfl
          have a1 := hA6 1 _ rfl
          have a2 := hA6 2 _ rfl
          have a3 := hA6 3 _ rfl
          have a4 := hA6 4 _ rfl
          have a5 := hA6 5 _ rfl
          have a6 := hA6 6 _ rfl
          have a7 := hA6 7 _ rfl
          have a8 := hA6 8 _ rfl
          have a9 := hA6 9 _ rfl
          have a10 := hA6 10 _ rfl
          have l6 := cell_lt a0
          have b0 := hA7 0 _ rfl
          have b1 := hA7 1 _ rfl
          have b2 := hA7 2 _ rfl
          have b3 := hA7 3 _ rfl
          have b4 := hA7 4 _ rfl
          have b5 := hA7 5 _ rfl
          have b6 := hA7 6 _ rfl
          have b7 := hA7 7 _ rfl
          have b8 := hA7 8 _ rfl
          have b9 := hA7 9 _ rfl
          have b10 := hA7 10 _ rfl
          have l7 := cell_lt b0
          have HTR := Lib.hid hTR
          clear hA2 hA3 hA6 hA7 hA8 hBW hTR
          go_upto_region 23 with fail
          go_cut [15] (fun s15 wx => ∃ p : Nat, s15 = .pointer (some ⟨p, 0, none⟩) ∧ At wx p (V.cells an) ∧ At wx p13 (V.cells nx) ∧ At wx p14 (V.cells ny) ∧ TrRel x y w (w.heap.size + 1 + 1) w.heap.size (w.heap.size + 1) w3.heap.size w4.heap.size (w4.heap.size + 1) wx)
          case first =>
            go_wp2_with (first | (go_at_call 10; refine (call_and _ _ ?_ _ _ _ x y hmx hmy ?_).mono ?_; (exact hR.below (by repeat (first | with_reducible exact Below.refl _ _ | with_reducible assumption | with_reducible refine below_more' ?_ (by go_size) | with_reducible refine bel_alloc ?_ _ (by go_size) | with_reducible refine Below.drew ?_ | with_reducible refine Below.setCell ?_ (by go_size) _ | with_reducible refine below_drewN ?_ _))); (focus (refine reads_at ?_ rfl ?_; ((repeat (first | rw [sz_alloc] | rw [sz_more] | rw [sz_drew] | rw [sz_drewN] | rw [List.length_append])); first | done | omega); (repeat (first | exact At.new (by ((repeat (first | rw [sz_alloc] | rw [sz_more] | rw [sz_drew] | rw [sz_drewN] | rw [List.length_append])); first | done | omega)) | with_reducible refine At.drewI ?_ | with_reducible refine At.drewNI ?_ _ | with_reducible refine At.allocI ?_ _ | with_reducible refine At.moreI ?_ _ _)); done)); rw [← HAN.out]; rintro e w5 ⟨rfl, hb⟩; obtain ⟨l5, k5, rfl⟩ := more_of_below hb; clear hb))
            go_meet
            exact ⟨_, rfl, by (repeat (first | exact At.new (by ((repeat (first | rw [sz_alloc] | rw [sz_more] | rw [sz_drew] | rw [sz_drewN] | rw [List.length_append])); first | done | omega)) | with_reducible refine At.drewI ?_ | with_reducible refine At.drewNI ?_ _ | with_reducible refine At.allocI ?_ _ | with_reducible refine At.moreI ?_ _ _)), hp13.keeps (by repeat (first | with_reducible exact keeps_refl _ | with_reducible assumption | with_reducible refine keeps_alloc ?_ _ | with_reducible refine keeps_more ?_ _ _ | with_reducible refine keeps_drew ?_ | with_reducible refine keeps_drewN ?_ _)), hp14.keeps (by repeat (first | with_reducible exact keeps_refl _ | with_reducible assumption | with_reducible refine keeps_alloc ?_ _ | with_reducible refine keeps_more ?_ _ _ | with_reducible refine keeps_drew ?_ | with_reducible refine keeps_drewN ?_ _)), HTR.out.below (by repeat (first | with_reducible exact Below.refl _ _ | with_reducible assumption | with_reducible refine below_more' ?_ (by go_size) | with_reducible refine bel_alloc ?_ _ (by go_size) | with_reducible refine Below.drew ?_ | with_reducible refine Below.setCell ?_ (by go_size) _ | with_reducible refine below_drewN ?_ _))⟩
          clear HTR
          obtain ⟨p15, rfl, hp15, hp13, hp14, hTR⟩ := hcut
          clear a0 a1 a2 a3 a4 a5 a6 a7 a8 a9 a10 l6
          clear b0 b1 b2 b3 b4 b5 b6 b7 b8 b9 b10 l7
          clear hR
          obtain ⟨hR, hBW, hA2, hA3, hA6, hA7, hA8⟩ := id hTR
          have x0 := hA2 0 _ rfl
          have x1 := hA2 1 _ rfl
          have x2 := hA2 2 _ rfl
          have x3 := hA2 3 _ rfl
          have x4 := hA2 4 _ rfl
          have l2 := cell_lt x0
          have y0 := hA3 0 _ rfl
          have y1 := hA3 1 _ rfl
          have y2 := hA3 2 _ rfl
          have y3 := hA3 3 _ rfl
          have y4 := hA3 4 _ rfl
          have l3 := cell_lt y0
          have HTR := Lib.hid hTR
          clear hA2 hA3 hA6 hA7 hA8 hBW hTR
          have c0 := hp13 0 _ rfl
          have c1 := hp13 1 _ rfl
          have c2 := hp13 2 _ rfl
          have c3 := hp13 3 _ rfl
          have c4 := hp13 4 _ rfl
          have d0 := hp14 0 _ rfl
          have d1 := hp14 1 _ rfl
          have d2 := hp14 2 _ rfl
          have d3 := hp14 3 _ rfl
          have d4 := hp14 4 _ rfl
          have e0 := hp15 0 _ rfl
          have e1 := hp15 1 _ rfl
          have e2 := hp15 2 _ rfl
          have e3 := hp15 3 _ rfl
          have e4 := hp15 4 _ rfl
          have l13 := cell_lt c0
          have l14 := cell_lt d0
          have l15 := cell_lt e0
          clear hp13 hp14 hp15
          obtain ⟨t2, ht2⟩ : ∃ b, b = (x.tag == 2) := ⟨_, rfl⟩
          obtain ⟨t4, ht4⟩ : ∃ b, b = (y.tag == 4) := ⟨_, rfl⟩
          have HT := Lib.hid (And.intro ht2 ht4)
          go_upto_region 24 with fail
          go_cut [16] (fun s16 wx => ∃ m : Bool, s16 = .bool m ∧ m = (t2 && t4) ∧ wc = wx)
          case first =>
            cases t2 <;> cases t4 <;> (have k2 := ht2.symm; have k4 := ht4.symm; clear ht2 ht4; go_wp2_with fail; go_meet; exact ⟨_, rfl, rfl, rfl⟩)
          obtain ⟨mix, rfl, hmix, rfl⟩ := hcut
          have HMX := Lib.hid hmix
          clear hmix ht2 ht4 x0 x1 x2 x3 x4 y0 y1 y2 y3 y4 l2 l3
          go_upto_region 25 with fail
          go_cut [116] (fun s116 wx => s116 = .bool false ∧ TrRel x y w (w.heap.size + 1 + 1) w.heap.size (w.heap.size + 1) w3.heap.size w4.heap.size (w4.heap.size + 1) wx)
          case first =>
            cases mix with
            | true =>
              go_quiet (fail)
              all_goals (go_wp2_with fail; go_meet; exact ⟨rfl, HTR.out.below (by repeat (first | with_reducible exact Below.refl _ _ | with_reducible assumption | with_reducible refine below_more' ?_ (by go_size) | with_reducible refine bel_alloc ?_ _ (by go_size) | with_reducible refine Below.drew ?_ | with_reducible refine Below.setCell ?_ (by go_size) _ | with_reducible refine below_drewN ?_ _))⟩)
            | false =>
              have hlaw : truthsG fyNot [an] = truthsG fyOr [nx, ny] := by
                rw [HNX.out, HNY.out, HAN.out]
                exact law_not x y hmx hmy (fun hh => by have hmix := HMX.out; rw [HT.out.1, HT.out.2, hh.1, hh.2] at hmix; revert hmix; decide)
              have hn : ∀ w, (binOp .neq 25 (Value.agg #[Value.int .i64 (truthsG fyNot [an]).tag, Value.int .i64 (truthsG fyNot [an]).num, Value.string (truthsG fyNot [an]).str, Value.bool (truthsG fyNot [an]).is, Value.int .i64 (truthsG fyNot [an]).code]) (Value.agg #[Value.int .i64 (truthsG fyOr [nx, ny]).tag, Value.int .i64 (truthsG fyOr [nx, ny]).num, Value.string (truthsG fyOr [nx, ny]).str, Value.bool (truthsG fyOr [nx, ny]).is, Value.int .i64 (truthsG fyOr [nx, ny]).code])).run Tryz.prog w = .ok (.bool false) w := fun w => by rw [hlaw]; exact ne_vv _ w
              clear hlaw
              go_region_held3 (fun w' => w'.cell? ⟨p13, 0, none⟩ = some (.int .i64 (nx).tag) ∧ w'.cell? ⟨p13, 1, none⟩ = some (.int .i64 (nx).num) ∧ w'.cell? ⟨p13, 2, none⟩ = some (.string (nx).str) ∧ w'.cell? ⟨p13, 3, none⟩ = some (.bool (nx).is) ∧ w'.cell? ⟨p13, 4, none⟩ = some (.int .i64 (nx).code) ∧ w'.cell? ⟨p14, 0, none⟩ = some (.int .i64 (ny).tag) ∧ w'.cell? ⟨p14, 1, none⟩ = some (.int .i64 (ny).num) ∧ w'.cell? ⟨p14, 2, none⟩ = some (.string (ny).str) ∧ w'.cell? ⟨p14, 3, none⟩ = some (.bool (ny).is) ∧ w'.cell? ⟨p14, 4, none⟩ = some (.int .i64 (ny).code) ∧ w'.cell? ⟨p15, 0, none⟩ = some (.int .i64 (an).tag) ∧ w'.cell? ⟨p15, 1, none⟩ = some (.int .i64 (an).num) ∧ w'.cell? ⟨p15, 2, none⟩ = some (.string (an).str) ∧ w'.cell? ⟨p15, 3, none⟩ = some (.bool (an).is) ∧ w'.cell? ⟨p15, 4, none⟩ = some (.int .i64 (an).code))
                (first | ((try dsimp only); refine ⟨?_, ?_, ?_, ?_, ?_, ?_, ?_, ?_, ?_, ?_, ?_, ?_, ?_, ?_, ?_⟩ <;> (repeat (first | with_reducible assumption | with_reducible refine cell_drewI ?_ | with_reducible refine cell_drewNI ?_ _ | with_reducible refine cell_allocI ?_ _ | with_reducible refine cell_moreI ?_ _ _ | (with_reducible refine cell_setI ?_ (by first | omega | (simp; omega)))))))
                (first | (go_at_call_of 9 (Value.agg #[Value.int .i64 (nx).tag, Value.int .i64 (nx).num, Value.string (nx).str, Value.bool (nx).is, Value.int .i64 (nx).code]); refine (law_single nx _).mono ?_; rintro e w5 ⟨rfl, hb⟩; obtain ⟨l5, k5, rfl⟩ := more_of_below hb; clear hb) | (go_at_call_of 9 (Value.agg #[Value.int .i64 (ny).tag, Value.int .i64 (ny).num, Value.string (ny).str, Value.bool (ny).is, Value.int .i64 (ny).code]); refine (law_single ny _).mono ?_; rintro e w5 ⟨rfl, hb⟩; obtain ⟨l5, k5, rfl⟩ := more_of_below hb; clear hb) | (go_at_call_of 9 (Value.agg #[Value.int .i64 (an).tag, Value.int .i64 (an).num, Value.string (an).str, Value.bool (an).is, Value.int .i64 (an).code]); refine (law_single an _).mono ?_; rintro e w5 ⟨rfl, hb⟩; obtain ⟨l5, k5, rfl⟩ := more_of_below hb; clear hb) | (go_at_call_of 10 (Value.string ⟨#[78, 79, 84]⟩); refine (call_not _ _ ?_ _ _ _ an hman ?_).mono ?_; (exact hR.below (by repeat (first | with_reducible exact Below.refl _ _ | with_reducible assumption | with_reducible refine below_more' ?_ (by go_size) | with_reducible refine bel_alloc ?_ _ (by go_size) | with_reducible refine Below.drew ?_ | with_reducible refine Below.setCell ?_ (by go_size) _ | with_reducible refine below_drewN ?_ _))); (focus (refine reads_at ?_ rfl ?_; ((repeat (first | rw [sz_alloc] | rw [sz_more] | rw [sz_drew] | rw [sz_drewN] | rw [List.length_append])); first | done | omega); (repeat (first | exact At.new (by ((repeat (first | rw [sz_alloc] | rw [sz_more] | rw [sz_drew] | rw [sz_drewN] | rw [List.length_append])); first | done | omega)) | with_reducible refine At.drewI ?_ | with_reducible refine At.drewNI ?_ _ | with_reducible refine At.allocI ?_ _ | with_reducible refine At.moreI ?_ _ _)); done)); rintro e w5 ⟨rfl, hb⟩; obtain ⟨l5, k5, rfl⟩ := more_of_below hb; clear hb) | (go_at_call_of 10 (Value.string ⟨#[79, 82]⟩); refine (call_or _ _ ?_ _ _ _ nx ny hmnx hmny ?_).mono ?_; (exact hR.below (by repeat (first | with_reducible exact Below.refl _ _ | with_reducible assumption | with_reducible refine below_more' ?_ (by go_size) | with_reducible refine bel_alloc ?_ _ (by go_size) | with_reducible refine Below.drew ?_ | with_reducible refine Below.setCell ?_ (by go_size) _ | with_reducible refine below_drewN ?_ _))); (focus (refine reads_at ?_ rfl ?_; ((repeat (first | rw [sz_alloc] | rw [sz_more] | rw [sz_drew] | rw [sz_drewN] | rw [List.length_append])); first | done | omega); (repeat (first | exact At.new (by ((repeat (first | rw [sz_alloc] | rw [sz_more] | rw [sz_drew] | rw [sz_drewN] | rw [List.length_append])); first | done | omega)) | with_reducible refine At.drewI ?_ | with_reducible refine At.drewNI ?_ _ | with_reducible refine At.allocI ?_ _ | with_reducible refine At.moreI ?_ _ _)); done)); rintro e w5 ⟨rfl, hb⟩; obtain ⟨l5, k5, rfl⟩ := more_of_below hb; clear hb))
              all_goals (go_wp2_with fail; go_meet; exact ⟨rfl, HTR.out.below (by repeat (first | with_reducible exact Below.refl _ _ | with_reducible assumption | with_reducible refine below_more' ?_ (by go_size) | with_reducible refine bel_alloc ?_ _ (by go_size) | with_reducible refine Below.drew ?_ | with_reducible refine Below.setCell ?_ (by go_size) _ | with_reducible refine below_drewN ?_ _))⟩)
          clear HTR
          obtain ⟨rfl, hTR⟩ := hcut
          clear c0 c1 c2 c3 c4 d0 d1 d2 d3 d4 e0 e1 e2 e3 e4 l13 l14 l15 hR HNX HNY HAN hmnx hmny hman HT
          obtain ⟨hR, hBW, hA2, hA3, hA6, hA7, hA8⟩ := id hTR
          have HTR := Lib.hid hTR
          clear hA2 hA3 hA6 hA7 hA8 hBW hTR
          go_upto_region 27 with fail
          go_cut [17] (fun s17 wx => ∃ p : Nat, s17 = .pointer (some ⟨p, 0, none⟩) ∧ At wx p (V.cells {tag := 1, num := 20000, str := ⟨#[]⟩, is := false, code := 0}) ∧ TrRel x y w (w.heap.size + 1 + 1) w.heap.size (w.heap.size + 1) w3.heap.size w4.heap.size (w4.heap.size + 1) wx)
          case first =>
            go_wp2_with fail
            go_meet
            exact ⟨_, rfl, by (repeat (first | exact At.new (by ((repeat (first | rw [sz_alloc] | rw [sz_more] | rw [sz_drew] | rw [sz_drewN] | rw [List.length_append])); first | done | omega)) | with_reducible refine At.drewI ?_ | with_reducible refine At.drewNI ?_ _ | with_reducible refine At.allocI ?_ _ | with_reducible refine At.moreI ?_ _ _)), HTR.out.below (by repeat (first | with_reducible exact Below.refl _ _ | with_reducible assumption | with_reducible refine below_more' ?_ (by go_size) | with_reducible refine bel_alloc ?_ _ (by go_size) | with_reducible refine Below.drew ?_ | with_reducible refine Below.setCell ?_ (by go_size) _ | with_reducible refine below_drewN ?_ _))⟩
          clear HTR
          obtain ⟨p17, rfl, hp17, hTR⟩ := hcut
          obtain ⟨hR, hBW, hA2, hA3, hA6, hA7, hA8⟩ := id hTR
          have y0 := hA3 0 _ rfl
          have y1 := hA3 1 _ rfl
          have y2 := hA3 2 _ rfl
          have y3 := hA3 3 _ rfl
          have y4 := hA3 4 _ rfl
          have l3 := cell_lt y0
          have a0 := hA6 0 _ rfl
          have a1 := hA6 1 _ rfl
          have a2 := hA6 2 _ rfl
          have a3 := hA6 3 _ rfl
          have a4 := hA6 4 _ rfl
          have a5 := hA6 5 _ rfl
          have a6 := hA6 6 _ rfl
          have a7 := hA6 7 _ rfl
          have a8 := hA6 8 _ rfl
          have a9 := hA6 9 _ rfl
          have a10 := hA6 10 _ rfl
          have l6 := cell_lt a0
          have b0 := hA7 0 _ rfl
          have b1 := hA7 1 _ rfl
          have b2 := hA7 2 _ rfl
          have b3 := hA7 3 _ rfl
          have b4 := hA7 4 _ rfl
          have b5 := hA7 5 _ rfl
          have b6 := hA7 6 _ rfl
          have b7 := hA7 7 _ rfl
          have b8 := hA7 8 _ rfl
          have b9 := hA7 9 _ rfl
          have b10 := hA7 10 _ rfl
          have l7 := cell_lt b0
          have HTR := Lib.hid hTR
          clear hA2 hA3 hA6 hA7 hA8 hBW hTR
          have f0 : wc.cell? ⟨p17, 0, none⟩ = some (.int .i64 1) := hp17 0 _ rfl
          have f1 : wc.cell? ⟨p17, 1, none⟩ = some (.int .i64 20000) := hp17 1 _ rfl
          have f2 : wc.cell? ⟨p17, 2, none⟩ = some (.string ⟨#[]⟩) := hp17 2 _ rfl
          have f3 : wc.cell? ⟨p17, 3, none⟩ = some (.bool false) := hp17 3 _ rfl
          have f4 : wc.cell? ⟨p17, 4, none⟩ = some (.int .i64 0) := hp17 4 _ rfl
          have l17 := cell_lt f0
          clear hp17
          have hn := ne_vv y
          go_upto_region 28 with fail
          go_cut [126] (fun s126 wx => s126 = .bool false ∧ TrRel x y w (w.heap.size + 1 + 1) w.heap.size (w.heap.size + 1) w3.heap.size w4.heap.size (w4.heap.size + 1) wx)
          case first =>
            go_region_held3 (fun w' => w'.cell? ⟨(w.heap.size + 1), 0, none⟩ = some (.int .i64 (y).tag) ∧ w'.cell? ⟨(w.heap.size + 1), 1, none⟩ = some (.int .i64 (y).num) ∧ w'.cell? ⟨(w.heap.size + 1), 2, none⟩ = some (.string (y).str) ∧ w'.cell? ⟨(w.heap.size + 1), 3, none⟩ = some (.bool (y).is) ∧ w'.cell? ⟨(w.heap.size + 1), 4, none⟩ = some (.int .i64 (y).code) ∧ w'.cell? ⟨w3.heap.size, 0, none⟩ = some (.bool false) ∧ w'.cell? ⟨w3.heap.size, 1, none⟩ = some (.int .i64 x.tag) ∧ w'.cell? ⟨w3.heap.size, 2, none⟩ = some (.int .i64 x.num) ∧ w'.cell? ⟨w3.heap.size, 3, none⟩ = some (.string x.str) ∧ w'.cell? ⟨w3.heap.size, 4, none⟩ = some (.bool x.is) ∧ w'.cell? ⟨w3.heap.size, 5, none⟩ = some (.int .i64 x.code) ∧ w'.cell? ⟨w3.heap.size, 6, none⟩ = some (.int .i64 0) ∧ w'.cell? ⟨w3.heap.size, 7, none⟩ = some (.int .i64 0) ∧ w'.cell? ⟨w3.heap.size, 8, none⟩ = some (.int .i64 0) ∧ w'.cell? ⟨w3.heap.size, 9, none⟩ = some (.int .i64 0) ∧ w'.cell? ⟨w3.heap.size, 10, none⟩ = some (.slice none 0 0) ∧ w'.cell? ⟨w4.heap.size, 0, none⟩ = some (.bool false) ∧ w'.cell? ⟨w4.heap.size, 1, none⟩ = some (.int .i64 y.tag) ∧ w'.cell? ⟨w4.heap.size, 2, none⟩ = some (.int .i64 y.num) ∧ w'.cell? ⟨w4.heap.size, 3, none⟩ = some (.string y.str) ∧ w'.cell? ⟨w4.heap.size, 4, none⟩ = some (.bool y.is) ∧ w'.cell? ⟨w4.heap.size, 5, none⟩ = some (.int .i64 y.code) ∧ w'.cell? ⟨w4.heap.size, 6, none⟩ = some (.int .i64 0) ∧ w'.cell? ⟨w4.heap.size, 7, none⟩ = some (.int .i64 0) ∧ w'.cell? ⟨w4.heap.size, 8, none⟩ = some (.int .i64 0) ∧ w'.cell? ⟨w4.heap.size, 9, none⟩ = some (.int .i64 0) ∧ w'.cell? ⟨w4.heap.size, 10, none⟩ = some (.slice none 0 0) ∧ w'.cell? ⟨p17, 0, none⟩ = some (.int .i64 1) ∧ w'.cell? ⟨p17, 1, none⟩ = some (.int .i64 20000) ∧ w'.cell? ⟨p17, 2, none⟩ = some (.string ⟨#[]⟩) ∧ w'.cell? ⟨p17, 3, none⟩ = some (.bool false) ∧ w'.cell? ⟨p17, 4, none⟩ = some (.int .i64 0))
              (first | ((try dsimp only); refine ⟨?_, ?_, ?_, ?_, ?_, ?_, ?_, ?_, ?_, ?_, ?_, ?_, ?_, ?_, ?_, ?_, ?_, ?_, ?_, ?_, ?_, ?_, ?_, ?_, ?_, ?_, ?_, ?_, ?_, ?_, ?_, ?_⟩ <;> (repeat (first | with_reducible assumption | with_reducible refine cell_drewI ?_ | with_reducible refine cell_drewNI ?_ _ | with_reducible refine cell_allocI ?_ _ | with_reducible refine cell_moreI ?_ _ _ | (with_reducible refine cell_setI ?_ (by first | omega | (simp; omega)))))))
              (first | (go_at_call 9; refine (law_single2k _).mono ?_; rintro e w5 ⟨rfl, hb⟩; obtain ⟨l5, k5, rfl⟩ := more_of_below hb; clear hb) | (go_at_call_of 10 (Value.string ⟨#[67, 72, 79, 79, 83, 69]⟩); refine (call_choose _ _ ?_ _ _ _ x y hmx hmy ?_).mono ?_; (exact hR.below (by repeat (first | with_reducible exact Below.refl _ _ | with_reducible assumption | with_reducible refine below_more' ?_ (by go_size) | with_reducible refine bel_alloc ?_ _ (by go_size) | with_reducible refine Below.drew ?_ | with_reducible refine Below.setCell ?_ (by go_size) _ | with_reducible refine below_drewN ?_ _))); (focus (refine reads_at ?_ rfl ?_; ((repeat (first | rw [sz_alloc] | rw [sz_more] | rw [sz_drew] | rw [sz_drewN] | rw [List.length_append])); first | done | omega); (repeat (first | exact At.new (by ((repeat (first | rw [sz_alloc] | rw [sz_more] | rw [sz_drew] | rw [sz_drewN] | rw [List.length_append])); first | done | omega)) | with_reducible refine At.drewI ?_ | with_reducible refine At.drewNI ?_ _ | with_reducible refine At.allocI ?_ _ | with_reducible refine At.moreI ?_ _ _)); done)); rintro e w5 ⟨rfl, hb⟩; obtain ⟨l5, k5, rfl⟩ := more_of_below hb; clear hb))
            all_goals (go_wp2_with fail; go_meet; exact ⟨rfl, HTR.out.below (by repeat (first | with_reducible exact Below.refl _ _ | with_reducible assumption | with_reducible refine below_more' ?_ (by go_size) | with_reducible refine bel_alloc ?_ _ (by go_size) | with_reducible refine Below.drew ?_ | with_reducible refine Below.setCell ?_ (by go_size) _ | with_reducible refine below_drewN ?_ _))⟩)
          clear HTR hn
          obtain ⟨rfl, hTR⟩ := hcut
          clear a0 a1 a2 a3 a4 a5 a6 a7 a8 a9 a10 b0 b1 b2 b3 b4 b5 b6 b7 b8 b9 b10 y0 y1 y2 y3 y4 f0 f1 f2 f3 f4 l3 l6 l7 l17 hR
          obtain ⟨en, hen⟩ : ∃ v, v = errnoG x := ⟨_, rfl⟩
          have HEN := Lib.hid hen
          obtain ⟨hm5, hlo5, hhi5⟩ := errno_ok x hmx
          rw [← hen] at hm5 hlo5 hhi5
          clear hen
          have HLO := Lib.hid hlo5
          have HHI := Lib.hid hhi5
          clear hlo5 hhi5
          obtain ⟨hR, hBW, hA2, hA3, hA6, hA7, hA8⟩ := id hTR
          have a0 := hA6 0 _ rfl
          have a1 := hA6 1 _ rfl
          have a2 := hA6 2 _ rfl
          have a3 := hA6 3 _ rfl
          have a4 := hA6 4 _ rfl
          have a5 := hA6 5 _ rfl
          have a6 := hA6 6 _ rfl
          have a7 := hA6 7 _ rfl
          have a8 := hA6 8 _ rfl
          have a9 := hA6 9 _ rfl
          have a10 := hA6 10 _ rfl
          have l6 := cell_lt a0
          have HTR := Lib.hid hTR
          clear hA2 hA3 hA6 hA7 hA8 hBW hTR
          go_upto_region 30 with fail
          go_cut [18] (fun s18 wx => ∃ p : Nat, s18 = .pointer (some ⟨p, 0, none⟩) ∧ At wx p (V.cells en) ∧ TrRel x y w (w.heap.size + 1 + 1) w.heap.size (w.heap.size + 1) w3.heap.size w4.heap.size (w4.heap.size + 1) wx)
          case first =>
            go_wp2_with (first | (go_at_call 10; refine (call_errno _ _ ?_ _ _ _ x hmx ?_).mono ?_; (exact hR.below (by repeat (first | with_reducible exact Below.refl _ _ | with_reducible assumption | with_reducible refine below_more' ?_ (by go_size) | with_reducible refine bel_alloc ?_ _ (by go_size) | with_reducible refine Below.drew ?_ | with_reducible refine Below.setCell ?_ (by go_size) _ | with_reducible refine below_drewN ?_ _))); (focus (refine reads_at ?_ rfl ?_; ((repeat (first | rw [sz_alloc] | rw [sz_more] | rw [sz_drew] | rw [sz_drewN] | rw [List.length_append])); first | done | omega); (repeat (first | exact At.new (by ((repeat (first | rw [sz_alloc] | rw [sz_more] | rw [sz_drew] | rw [sz_drewN] | rw [List.length_append])); first | done | omega)) | with_reducible refine At.drewI ?_ | with_reducible refine At.drewNI ?_ _ | with_reducible refine At.allocI ?_ _ | with_reducible refine At.moreI ?_ _ _)); done)); rw [← HEN.out]; rintro e w5 ⟨rfl, hb⟩; obtain ⟨l5, k5, rfl⟩ := more_of_below hb; clear hb))
            go_meet
            exact ⟨_, rfl, by (repeat (first | exact At.new (by ((repeat (first | rw [sz_alloc] | rw [sz_more] | rw [sz_drew] | rw [sz_drewN] | rw [List.length_append])); first | done | omega)) | with_reducible refine At.drewI ?_ | with_reducible refine At.drewNI ?_ _ | with_reducible refine At.allocI ?_ _ | with_reducible refine At.moreI ?_ _ _)), HTR.out.below (by repeat (first | with_reducible exact Below.refl _ _ | with_reducible assumption | with_reducible refine below_more' ?_ (by go_size) | with_reducible refine bel_alloc ?_ _ (by go_size) | with_reducible refine Below.drew ?_ | with_reducible refine Below.setCell ?_ (by go_size) _ | with_reducible refine below_drewN ?_ _))⟩
          clear HTR
          obtain ⟨p18, rfl, hp18, hTR⟩ := hcut
          clear a0 a1 a2 a3 a4 a5 a6 a7 a8 a9 a10 l6 hR
          have hBS := hTR.2.1
          have hBL := hBS.size
          obtain ⟨hR, hBW, hA2, hA3, hA6, hA7, hA8⟩ := id hTR
          have x0 := hA2 0 _ rfl
          have x1 := hA2 1 _ rfl
          have x2 := hA2 2 _ rfl
          have x3 := hA2 3 _ rfl
          have x4 := hA2 4 _ rfl
          have l2 := cell_lt x0
          have HTR := Lib.hid hTR
          clear hA2 hA3 hA6 hA7 hA8 hBW hTR
          have d0 := hp18 0 _ rfl
          have d1 := hp18 1 _ rfl
          have d2 := hp18 2 _ rfl
          have d3 := hp18 3 _ rfl
          have d4 := hp18 4 _ rfl
          have l18 := cell_lt d0
          clear hp18
          by_cases h4 : x.tag = 4
          · have hb4 : (x.tag == 4) = true := by simp [h4]
            have hb5 : (x.tag != 4) = false := by simp [h4]
            by_cases hc : x.code = 1
            · have hb6 : (x.code == 1) = true := by simp [hc]
              clear h4 hc
              go_wp2
              go_quiet (fail)
              all_goals go_wp2
              all_goals go_ret
              all_goals exact ⟨rfl, (by repeat (first | with_reducible exact Below.refl _ _ | with_reducible assumption | with_reducible refine below_more' ?_ (by go_size) | with_reducible refine bel_alloc ?_ _ (by go_size) | with_reducible refine Below.drew ?_ | with_reducible refine Below.setCell ?_ (by go_size) _ | with_reducible refine below_drewN ?_ _))⟩
            · have hb6 : (x.code == 1) = false := by simp [hc]
              have he : ∀ w, (binOp .eql 25 (Value.agg #[Value.int .i64 (faultG en).tag, Value.int .i64 (faultG en).num, Value.string (faultG en).str, Value.bool (faultG en).is, Value.int .i64 (faultG en).code]) (Value.agg #[Value.int .i64 (x).tag, Value.int .i64 (x).num, Value.string (x).str, Value.bool (x).is, Value.int .i64 (x).code])).run Tryz.prog w = .ok (.bool true) w := fun w => by rw [HEN.out, law_errno x hmx h4 hc]; exact eq_vv x w
              clear h4 hc
              go_wp2_with fail
              go_region_held3 (fun w' => w'.cell? ⟨w.heap.size, 0, none⟩ = some (.int .i64 (x).tag) ∧ w'.cell? ⟨w.heap.size, 1, none⟩ = some (.int .i64 (x).num) ∧ w'.cell? ⟨w.heap.size, 2, none⟩ = some (.string (x).str) ∧ w'.cell? ⟨w.heap.size, 3, none⟩ = some (.bool (x).is) ∧ w'.cell? ⟨w.heap.size, 4, none⟩ = some (.int .i64 (x).code) ∧ w'.cell? ⟨p18, 0, none⟩ = some (.int .i64 (en).tag) ∧ w'.cell? ⟨p18, 1, none⟩ = some (.int .i64 (en).num) ∧ w'.cell? ⟨p18, 2, none⟩ = some (.string (en).str) ∧ w'.cell? ⟨p18, 3, none⟩ = some (.bool (en).is) ∧ w'.cell? ⟨p18, 4, none⟩ = some (.int .i64 (en).code))
                (first | ((try dsimp only); refine ⟨?_, ?_, ?_, ?_, ?_, ?_, ?_, ?_, ?_, ?_⟩ <;> (repeat (first | with_reducible assumption | with_reducible refine cell_drewI ?_ | with_reducible refine cell_drewNI ?_ _ | with_reducible refine cell_allocI ?_ _ | with_reducible refine cell_moreI ?_ _ _ | (with_reducible refine cell_setI ?_ (by first | omega | (simp; omega)))))))
                (first | (go_at_call_of 9 (Value.agg #[Value.int .i64 (en).tag, Value.int .i64 (en).num, Value.string (en).str, Value.bool (en).is, Value.int .i64 (en).code]); refine (law_single en _).mono ?_; rintro e w5 ⟨rfl, hb⟩; obtain ⟨l5, k5, rfl⟩ := more_of_below hb; clear hb) | (go_at_call_of 10 (Value.string ⟨#[69, 82, 82]⟩); refine (call_err _ _ ?_ _ _ _ en hm5 HLO.out HHI.out ?_).mono ?_; (exact hR.below (by repeat (first | with_reducible exact Below.refl _ _ | with_reducible assumption | with_reducible refine below_more' ?_ (by go_size) | with_reducible refine bel_alloc ?_ _ (by go_size) | with_reducible refine Below.drew ?_ | with_reducible refine Below.setCell ?_ (by go_size) _ | with_reducible refine below_drewN ?_ _))); (focus (refine reads_at ?_ rfl ?_; ((repeat (first | rw [sz_alloc] | rw [sz_more] | rw [sz_drew] | rw [sz_drewN] | rw [List.length_append])); first | done | omega); (repeat (first | exact At.new (by ((repeat (first | rw [sz_alloc] | rw [sz_more] | rw [sz_drew] | rw [sz_drewN] | rw [List.length_append])); first | done | omega)) | with_reducible refine At.drewI ?_ | with_reducible refine At.drewNI ?_ _ | with_reducible refine At.allocI ?_ _ | with_reducible refine At.moreI ?_ _ _)); done)); rintro e w5 ⟨rfl, hb⟩; obtain ⟨l5, k5, rfl⟩ := more_of_below hb; clear hb))
              all_goals go_wp2
              all_goals go_ret
              all_goals exact ⟨rfl, (by repeat (first | with_reducible exact Below.refl _ _ | with_reducible assumption | with_reducible refine below_more' ?_ (by go_size) | with_reducible refine bel_alloc ?_ _ (by go_size) | with_reducible refine Below.drew ?_ | with_reducible refine Below.setCell ?_ (by go_size) _ | with_reducible refine below_drewN ?_ _))⟩
          · have hb4 : (x.tag == 4) = false := by simp [h4]
            have hb5 : (x.tag != 4) = true := by simp [h4]
            have he : ∀ w, (binOp .eql 25 (Value.agg #[Value.int .i64 (en).tag, Value.int .i64 (en).num, Value.string (en).str, Value.bool (en).is, Value.int .i64 (en).code]) (.agg #[.int .i64 4, .int .i64 0, .string ⟨#[]⟩, .bool false, .int .i64 8])).run Tryz.prog w = .ok (.bool true) w := fun w => by rw [HEN.out, show errnoG x = errG 8 from if_neg h4]; exact eq_vv (errG 8) w
            clear h4
            go_wp2_with fail
            go_region_held3 (fun w' => w'.cell? ⟨p18, 0, none⟩ = some (.int .i64 (en).tag) ∧ w'.cell? ⟨p18, 1, none⟩ = some (.int .i64 (en).num) ∧ w'.cell? ⟨p18, 2, none⟩ = some (.string (en).str) ∧ w'.cell? ⟨p18, 3, none⟩ = some (.bool (en).is) ∧ w'.cell? ⟨p18, 4, none⟩ = some (.int .i64 (en).code))
              (first | ((try dsimp only); refine ⟨?_, ?_, ?_, ?_, ?_⟩ <;> (repeat (first | with_reducible assumption | with_reducible refine cell_drewI ?_ | with_reducible refine cell_drewNI ?_ _ | with_reducible refine cell_allocI ?_ _ | with_reducible refine cell_moreI ?_ _ _ | (with_reducible refine cell_setI ?_ (by first | omega | (simp; omega)))))))
              (first | (go_at_call 12; refine (law_fault _ _).mono ?_; rintro e w5 ⟨rfl, hb⟩; obtain ⟨l5, k5, rfl⟩ := more_of_below hb; clear hb))
            all_goals go_wp2
            all_goals go_ret
            all_goals exact ⟨rfl, (by repeat (first | with_reducible exact Below.refl _ _ | with_reducible assumption | with_reducible refine below_more' ?_ (by go_size) | with_reducible refine bel_alloc ?_ _ (by go_size) | with_reducible refine Below.drew ?_ | with_reducible refine Below.setCell ?_ (by go_size) _ | with_reducible refine below_drewN ?_ _))⟩
end Go.Proofs.YtpcihefhagipmaaGreatDoor
