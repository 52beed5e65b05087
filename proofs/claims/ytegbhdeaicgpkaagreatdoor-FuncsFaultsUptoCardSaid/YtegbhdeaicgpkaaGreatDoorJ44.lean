/-
  Parts of a proof: AggDo, AggCall.
-/
import Derived.Test.YtegbhdeaicgpkaaGreatDoorJ39
import Derived.Test.YtegbhdeaicgpkaaGreatDoorJ40
import Derived.Test.YtegbhdeaicgpkaaGreatDoorJ43
import Derived.Test.YtegbhdeaicgpkaaGreatDoorJ08
set_option linter.all false
namespace Go.Proofs.YtegbhdeaicgpkaaGreatDoor
open Go Go.RowKit
def p0A : Arg × List En := (⟨false, ⟨0, 0, ⟨#[]⟩, false, 0⟩, 0, 0, 0, 0, none, 0, 0⟩, [])
def aggDo (s : ByteArray) (tx : Int) (pl : List (Arg × List En)) : V :=
  if (⟨#[67, 79, 76, 83]⟩ : ByteArray) = s then numG (colsG (pl.getD 0 p0A).1 * 10000) else
  if (⟨#[82, 79, 87, 83]⟩ : ByteArray) = s then numG (rowsG (pl.getD 0 p0A).1 * 10000) else
  if (⟨#[74, 79, 73, 78]⟩ : ByteArray) = s then joinG tx (pl.getD 0 p0A) (pl.drop 1) else
  if (⟨#[76, 65, 82, 71, 69]⟩ : ByteArray) = s then largeG (pl.getD 0 p0A) (pl.getD 1 p0A).1.val else
  if (⟨#[73, 78, 68, 69, 88]⟩ : ByteArray) = s then indexG (pl.getD 0 p0A).1 (pl.getD 0 p0A).2 (pl.getD 1 p0A).1.val (pl.getD 2 p0A).1.val else
  if (⟨#[76, 79, 79, 75, 85, 80]⟩ : ByteArray) = s then lookupG (pl.getD 1 p0A).1 (pl.getD 1 p0A).2 (pl.getD 2 p0A).1 (pl.getD 2 p0A).2 (pl.getD 0 p0A).1.val else
  if (⟨#[77, 65, 84, 67, 72]⟩ : ByteArray) = s then matchG (pl.getD 1 p0A).1 (pl.getD 1 p0A).2 (pl.getD 0 p0A).1.val else
  if (⟨#[83, 85, 77, 73, 70]⟩ : ByteArray) = s then sumifG (pl.getD 0 p0A).1 (pl.getD 0 p0A).2 (pl.getD 1 p0A).1.val (pl.getD 2 p0A).1 (pl.getD 2 p0A).2 else
  if (⟨#[67, 79, 85, 78, 84, 73, 70]⟩ : ByteArray) = s then countifG (pl.getD 0 p0A).1 (pl.getD 0 p0A).2 (pl.getD 1 p0A).1.val else
  if (⟨#[66, 76, 65, 78, 75, 83]⟩ : ByteArray) = s then countifG (pl.getD 0 p0A).1 (pl.getD 0 p0A).2 zeroG else
  if (⟨#[67, 79, 85, 78, 84, 65]⟩ : ByteArray) = s then numG (((itemsG pl).countP fun v => v.tag != 0 : Nat) * 10000) else
  if (⟨#[67, 79, 85, 78, 84]⟩ : ByteArray) = s then numG (((itemsG pl).countP fun v => v.tag == 1 : Nat) * 10000) else
  if (⟨#[77, 69, 68, 73, 65, 78]⟩ : ByteArray) = s then if (amongG (itemsG pl)).2.tag = 4 then (amongG (itemsG pl)).2 else if (amongG (itemsG pl)).1.length = 0 then errG 6 else numG (medianG (amongG (itemsG pl)).1) else
  if (⟨#[65, 86, 71]⟩ : ByteArray) = s then if (amongG (itemsG pl)).2.tag = 4 then (amongG (itemsG pl)).2 else if (amongG (itemsG pl)).1.length = 0 then errG 6 else numG (meanG (amongG (itemsG pl)).1) else
  if (⟨#[77, 65, 88]⟩ : ByteArray) = s then if (amongG (itemsG pl)).2.tag = 4 then (amongG (itemsG pl)).2 else if (amongG (itemsG pl)).1.length = 0 then errG 6 else numG (Lib.maxOf (amongG (itemsG pl)).1) else
  if (⟨#[77, 73, 78]⟩ : ByteArray) = s then if (amongG (itemsG pl)).2.tag = 4 then (amongG (itemsG pl)).2 else if (amongG (itemsG pl)).1.length = 0 then errG 6 else numG (Lib.minOf (amongG (itemsG pl)).1) else
  if (⟨#[80, 82, 79, 68]⟩ : ByteArray) = s then if (amongG (itemsG pl)).2.tag = 4 then (amongG (itemsG pl)).2 else prodGo 10000 (amongG (itemsG pl)).1 else
  if (⟨#[83, 85, 77]⟩ : ByteArray) = s then if (amongG (itemsG pl)).2.tag = 4 then (amongG (itemsG pl)).2 else fitG (amongG (itemsG pl)).1.sum else
  errG 8
def DoesA (w : World) (fn : Fn) (first cap : Array Value) (A : Option Addr) (n c : Nat) (tx : Int) (r : V) : Prop :=
  (∃ k, fn = .func k ∧ first = #[] ∧ cap = #[] ∧ (∀ (args : Array Value) (w : World), Sem.run Tryz.prog (callFunc k args) w = .ok (.enter k args) w) ∧
    ∀ W, Below w.heap.size w W → Calls Tryz.prog k #[.slice A n c, .int .i64 tx] W fun e w' => e = .returned (Value.agg #[Value.int .i64 r.tag, Value.int .i64 r.num, Value.string r.str, Value.bool r.is, Value.int .i64 r.code]) ∧ Below W.heap.size W w') ∨
  (∃ k p, fn = .func k ∧ first = #[] ∧ cap = #[.pointer (some ⟨p, 0, none⟩)] ∧ (∀ (args : Array Value) (w : World), Sem.run Tryz.prog (callFunc k args) w = .ok (.enter k args) w) ∧
    ∀ W, Below w.heap.size w W → Calls Tryz.prog k #[.slice A n c, .int .i64 tx, .pointer (some ⟨p, 0, none⟩)] W fun e w' => e = .returned (Value.agg #[Value.int .i64 r.tag, Value.int .i64 r.num, Value.string r.str, Value.bool r.is, Value.int .i64 r.code]) ∧ Below W.heap.size W w')
theorem args_cells {w : World} {pl : List (Arg × List En)} {A : Option Addr} {n : Nat} (h : ArgsAt w pl A n) (hn : 0 < n) : ∃ b off, A = some ⟨b, off, none⟩ ∧ ∀ j p, pl[j]? = some p → ∀ i u, p.1.cells[i]? = some u → w.cell? ⟨b, off + 11 * j + i, none⟩ = some u := by
  obtain ⟨b, off, rfl, _, hc⟩ := h.hr.2 hn
  refine ⟨b, off, rfl, fun j p hj i u hu => ?_⟩
  have h1 := hc _ u (argFlat_at (pl.map Prod.fst) j p.1 (by rw [List.getElem?_map, hj]; rfl) i u hu)
  rw [show off + 11 * j + i = off + (j * 11 + i) by omega]
  exact h1
theorem args_tail {w : World} {p : Arg × List En} {pl : List (Arg × List En)} {b off n : Nat} (h : ArgsAt w (p :: pl) (some ⟨b, off, none⟩) (n + 1)) (hT : (itemsG pl).length ≤ 1000000000000) : ArgsAt w pl (some ⟨b, off + 11, none⟩) n := by
  obtain ⟨b', off', e, hb, hc⟩ := h.hr.2 (by omega)
  simp only [Option.some.injEq, Addr.mk.injEq, and_true] at e
  obtain ⟨rfl, rfl⟩ := e
  refine ⟨⟨?_, fun _ => ⟨b, off + 11, rfl, hb, fun j u hu => ?_⟩⟩, fun q hq => h.hE q (List.mem_cons_of_mem _ hq), hT, by have := h.hm; omega, fun q hq => h.hnn q (List.mem_cons_of_mem _ hq), fun q hq => h.h64 q (List.mem_cons_of_mem _ hq), fun q hq => h.hok q (List.mem_cons_of_mem _ hq)⟩
  · have h1 := h.hr.1
    rw [List.map_cons, argFlat_cons, List.length_append] at h1
    have : p.1.cells.length = 11 := rfl
    omega
  · have h1 := hc (11 + j) u (by rw [List.map_cons, argFlat_cons, List.getElem?_append_right (show p.1.cells.length ≤ 11 + j from Nat.le_add_right _ _), show 11 + j - p.1.cells.length = j from Nat.add_sub_cancel_left 11 j]; exact hu)
    rw [show off + 11 + j = off + (11 + j) by omega]
    exact h1
theorem args_head {w : World} {p : Arg × List En} {pl : List (Arg × List En)} {b off n : Nat} (h : ArgsAt w (p :: pl) (some ⟨b, off, none⟩) (n + 1)) (hT : (itemsG [p]).length ≤ 1000000000000) : ArgsAt w [p] (some ⟨b, off, none⟩) 1 := by
  obtain ⟨b', off', e, hb, hc⟩ := h.hr.2 (by omega)
  simp only [Option.some.injEq, Addr.mk.injEq, and_true] at e
  obtain ⟨rfl, rfl⟩ := e
  have hmem : ∀ q ∈ [p], q ∈ p :: pl := fun q hq => by simp at hq; simp [hq]
  refine ⟨⟨rfl, fun _ => ⟨b, off, rfl, hb, fun j u hu => ?_⟩⟩, fun q hq => h.hE q (hmem q hq), hT, by omega, fun q hq => h.hnn q (hmem q hq), fun q hq => h.h64 q (hmem q hq), fun q hq => h.hok q (hmem q hq)⟩
  have hu2 : p.1.cells[j]? = some u := by simpa [argFlat_cons, argFlat] using hu
  exact hc j u (by rw [List.map_cons, argFlat_cons, List.getElem?_append_left (List.getElem?_eq_some_iff.1 hu2).1]; exact hu2)
theorem rect_small {a : Arg} {es : List En} (h : argOk a es = true) (hm : a.many = true) : SmallA a ∧ (∀ e ∈ es, SmallE e) ∧ 1 ≤ rowsG a ∧ 1 ≤ colsG a := by
  unfold argOk at h
  rw [if_pos hm] at h
  simp only [Bool.and_eq_true] at h
  obtain ⟨⟨h1, _⟩, h2⟩ := h
  simp only [rectB, cellB, Bool.and_eq_true, decide_eq_true_eq] at h1
  refine ⟨by unfold SmallA; omega, fun e he => ?_, by unfold rowsG; omega, by unfold colsG; omega⟩
  have h3 := (entsGo_may h2 e he).2
  simp only [inB, Bool.and_eq_true, decide_eq_true_eq] at h3
  unfold SmallE
  omega
theorem kinds_at {c : ByteArray} {xs : List Bool} {n i : Nat} (h : kindsOk c xs n = true) (hi : i < n) : kindOk c xs i = true := by
  unfold kindsOk at h
  exact List.all_eq_true.1 h i (List.mem_range.2 hi)
theorem kind_rect {c : ByteArray} {xs : List Bool} {n i : Nat} (h : kindsOk c xs n = true) (hi : i < n) (hc : kindAt c i = 114) : xs.getD i false = true := by
  have h1 := kinds_at h hi
  unfold kindOk at h1
  rw [hc] at h1
  simpa using h1
theorem items_part {p : Arg × List En} {pl : List (Arg × List En)} (h : p ∈ pl) : (itemsG [p]).length ≤ (itemsG pl).length := by
  unfold itemsG
  rw [List.length_flatMap, List.length_flatMap]
  simp only [List.map_cons, List.map_nil, List.sum_cons, List.sum_nil, Nat.add_zero]
  have hm : (itemsA p).length ∈ pl.map fun q => (itemsA q).length := List.mem_map.2 ⟨p, h, rfl⟩
  generalize (pl.map fun q => (itemsA q).length) = l at hm ⊢
  induction l with
  | nil => simp at hm
  | cons x l ih =>
    rw [List.sum_cons]
    rcases List.mem_cons.1 hm with e | e
    · omega
    · have := ih e
      omega
theorem min_call (l : List Int) (A : Option Addr) (c B : Nat) (w : World) (hr : Reads w B 1 A l.length (I l)) (hn : 0 < l.length) (hm : l.length ≤ 1000000000000) :
    Calls Tryz.prog 109 #[.slice A l.length c] w fun e w' => e = .returned (.int .i64 (Lib.minOf l)) ∧ Below w.heap.size w w' := by
  obtain ⟨b, off, rfl, _, hc⟩ := hr.2 hn
  have h := Tryz.slices_Min_int b off l.length c l w hn (Nat.le_refl _) (by omega) (fun j hj => hc j _ (by unfold I; rw [List.getElem?_map, List.getElem?_eq_getElem hj, List.getD_eq_getElem?_getD, List.getElem?_eq_getElem hj]; rfl))
  rw [List.take_length] at h
  refine h.mono ?_
  rintro e w' ⟨rfl, rfl⟩
  exact ⟨rfl, Below.refl _ _⟩
theorem max_call (l : List Int) (A : Option Addr) (c B : Nat) (w : World) (hr : Reads w B 1 A l.length (I l)) (hn : 0 < l.length) (hm : l.length ≤ 1000000000000) :
    Calls Tryz.prog 110 #[.slice A l.length c] w fun e w' => e = .returned (.int .i64 (Lib.maxOf l)) ∧ Below w.heap.size w w' := by
  obtain ⟨b, off, rfl, _, hc⟩ := hr.2 hn
  have h := Tryz.slices_Max_int b off l.length c l w hn (Nat.le_refl _) (by omega) (fun j hj => hc j _ (by unfold I; rw [List.getElem?_map, List.getElem?_eq_getElem hj, List.getD_eq_getElem?_getD, List.getElem?_eq_getElem hj]; rfl))
  rw [List.take_length] at h
  refine h.mono ?_
  rintro e w' ⟨rfl, rfl⟩
  exact ⟨rfl, Below.refl _ _⟩
theorem len1 {α : Type} {l : List α} (h : l.length = 1) : ∃ a, l = [a] := by
  match l, h with
  | [a], _ => exact ⟨a, rfl⟩
theorem len2 {α : Type} {l : List α} (h : l.length = 2) : ∃ a b, l = [a, b] := by
  match l, h with
  | [a, b], _ => exact ⟨a, b, rfl⟩
theorem len3 {α : Type} {l : List α} (h : l.length = 3) : ∃ a b c, l = [a, b, c] := by
  match l, h with
  | [a, b, c], _ => exact ⟨a, b, c, rfl⟩
theorem lenS {α : Type} {l : List α} {m : Nat} (h : l.length = m + 1) : ∃ a r, l = a :: r := by
  match l, h with
  | a :: r, _ => exact ⟨a, r, rfl⟩
theorem in64 {x : Int} (h : In63 x) : Is64 x := by unfold In63 at h; unfold Is64; omega
set_option maxRecDepth 100000 in
set_option maxHeartbeats 4000000 in
theorem agg_do {w : World} {s ck : ByteArray} {x y : Int} {fn : Fn} {first cap : Array Value} {p : Nat} (ht : aggTab s = some (ck, x, y)) (hf : aggFn p s = some (.func fn first cap)) (hk : AggCells p w)
    (pl : List (Arg × List En)) (A : Option Addr) (n c : Nat) (tx : Int) (htx : 0 ≤ tx ∧ tx ≤ 1024) (hP : ArgsAt w pl A n) (hlen : pl.length = n) (hx : x ≤ n) (hy : n ≤ y) (hcap : n ≤ c) (hkk : kindsOk ck (pl.map fun q => q.1.many) n = true)
    (hT7 : (itemsG pl).length ≤ 20000000) (hsz : ∀ q ∈ pl, q.1.val.str.size ≤ 1048576 ∧ ∀ e ∈ q.2, e.v.str.size ≤ 1048576) (hn9 : ∀ q ∈ pl, q.1.n ≤ 1000000000) (hp : Pow10 w) : DoesA w fn first cap A n c tx (aggDo s tx pl) := by
  obtain ⟨k1, k2, k3, k4, k5, k6, k7, k8, k9, k10, k11, k12⟩ := hk
  unfold aggTab at ht
  unfold aggFn at hf
  unfold aggDo
  by_cases eCOLS : (⟨#[67, 79, 76, 83]⟩ : ByteArray) = s
  · rw [if_pos eCOLS] at ht hf ⊢
    cases ht
    cases hf
    obtain rfl : n = 1 := by omega
    obtain ⟨⟨a0, es0⟩, rfl⟩ := len1 hlen
    obtain ⟨b, off, rfl, hc⟩ := args_cells hP (by decide)
    have n0 := hn9 (a0, es0) (by simp)
    have i0 := hP.h64 (a0, es0) (by simp)
    have o0 := hP.hok (a0, es0) (by simp)
    obtain ⟨s0, e0, r0, q0⟩ := rect_small o0 (kind_rect (i := 0) hkk (by decide) (by decide +kernel))
    refine .inl ⟨_, rfl, rfl, rfl, fun _ _ => rfl, fun W hW => ?_⟩
    have c0 := fun i u hu => cell_below (hc 0 (a0, es0) rfl i u hu) hW
    have hPW := hP.below hW
    exact aggs_COLS a0 b off c tx W c0 s0
  rw [if_neg eCOLS] at ht hf ⊢
  by_cases eROWS : (⟨#[82, 79, 87, 83]⟩ : ByteArray) = s
  · rw [if_pos eROWS] at ht hf ⊢
    cases ht
    cases hf
    obtain rfl : n = 1 := by omega
    obtain ⟨⟨a0, es0⟩, rfl⟩ := len1 hlen
    obtain ⟨b, off, rfl, hc⟩ := args_cells hP (by decide)
    have n0 := hn9 (a0, es0) (by simp)
    have i0 := hP.h64 (a0, es0) (by simp)
    have o0 := hP.hok (a0, es0) (by simp)
    obtain ⟨s0, e0, r0, q0⟩ := rect_small o0 (kind_rect (i := 0) hkk (by decide) (by decide +kernel))
    refine .inl ⟨_, rfl, rfl, rfl, fun _ _ => rfl, fun W hW => ?_⟩
    have c0 := fun i u hu => cell_below (hc 0 (a0, es0) rfl i u hu) hW
    have hPW := hP.below hW
    exact aggs_ROWS a0 b off c tx W c0 s0
  rw [if_neg eROWS] at ht hf ⊢
  by_cases eJOIN : (⟨#[74, 79, 73, 78]⟩ : ByteArray) = s
  · rw [if_pos eJOIN] at ht hf ⊢
    cases ht
    cases hf
    obtain ⟨m, rfl⟩ : ∃ m, n = m + 1 := ⟨n - 1, by omega⟩
    obtain ⟨⟨a0, es0⟩, pl, rfl⟩ := lenS hlen
    · skip
      obtain ⟨b, off, rfl, hc⟩ := args_cells hP (by omega)
      have i0 := hP.h64 (a0, es0) (by simp)
      have z0 := (hsz (a0, es0) (by simp)).1
      have hle : (itemsG pl).length ≤ (itemsG ((a0, es0) :: pl)).length := by unfold itemsG; rw [List.flatMap_cons, List.length_append]; omega
      refine .inl ⟨_, rfl, rfl, rfl, fun _ _ => rfl, fun W hW => ?_⟩
      refine aggs_JOIN a0 es0 pl m b off c tx (by omega) W (fun i u hu => cell_below (hc 0 (a0, es0) rfl i u hu) hW) (args_tail (hP.below hW) (by omega)) (by omega) hcap i0.1 z0 (fun v hv => ?_) (by omega) (hp.below hW (Nat.le_refl _))
      obtain ⟨q, hq, hv⟩ := List.mem_flatMap.1 hv
      have h1 := hsz q (List.mem_cons_of_mem _ hq)
      unfold itemsA at hv
      rcases List.mem_append.1 hv with hv | hv
      · split at hv
        · simp at hv
        · simp only [List.mem_cons, List.not_mem_nil, or_false] at hv
          subst hv
          exact h1.1
      · obtain ⟨e, he, rfl⟩ := List.mem_map.1 hv
        exact h1.2 e he
  rw [if_neg eJOIN] at ht hf ⊢
  by_cases eLARGE : (⟨#[76, 65, 82, 71, 69]⟩ : ByteArray) = s
  · rw [if_pos eLARGE] at ht hf ⊢
    cases ht
    cases hf
    obtain rfl : n = 2 := by omega
    obtain ⟨⟨a0, es0⟩, ⟨a1, es1⟩, rfl⟩ := len2 hlen
    obtain ⟨b, off, rfl, hc⟩ := args_cells hP (by decide)
    have n0 := hn9 (a0, es0) (by simp)
    have i0 := hP.h64 (a0, es0) (by simp)
    have o0 := hP.hok (a0, es0) (by simp)
    obtain ⟨s0, e0, r0, q0⟩ := rect_small o0 (kind_rect (i := 0) hkk (by decide) (by decide +kernel))
    have n1 := hn9 (a1, es1) (by simp)
    have i1 := hP.h64 (a1, es1) (by simp)
    have o1 := hP.hok (a1, es1) (by simp)
    refine .inl ⟨_, rfl, rfl, rfl, fun _ _ => rfl, fun W hW => ?_⟩
    have c0 := fun i u hu => cell_below (hc 0 (a0, es0) rfl i u hu) hW
    have c1 := fun i u hu => cell_below (hc 1 (a1, es1) rfl i u hu) hW
    have hPW := hP.below hW
    exact aggs_LARGE a0 a1 es0 b off c tx W c1 (args_head hPW (by have := items_part (p := (a0, es0)) (pl := [(a0, es0), (a1, es1)]) (by simp); omega)) hcap i1.1
  rw [if_neg eLARGE] at ht hf ⊢
  by_cases eINDEX : (⟨#[73, 78, 68, 69, 88]⟩ : ByteArray) = s
  · rw [if_pos eINDEX] at ht hf ⊢
    cases ht
    cases hf
    obtain rfl : n = 3 := by omega
    obtain ⟨⟨a0, es0⟩, ⟨a1, es1⟩, ⟨a2, es2⟩, rfl⟩ := len3 hlen
    obtain ⟨b, off, rfl, hc⟩ := args_cells hP (by decide)
    have n0 := hn9 (a0, es0) (by simp)
    have i0 := hP.h64 (a0, es0) (by simp)
    have o0 := hP.hok (a0, es0) (by simp)
    obtain ⟨s0, e0, r0, q0⟩ := rect_small o0 (kind_rect (i := 0) hkk (by decide) (by decide +kernel))
    have n1 := hn9 (a1, es1) (by simp)
    have i1 := hP.h64 (a1, es1) (by simp)
    have o1 := hP.hok (a1, es1) (by simp)
    have n2 := hn9 (a2, es2) (by simp)
    have i2 := hP.h64 (a2, es2) (by simp)
    have o2 := hP.hok (a2, es2) (by simp)
    refine .inl ⟨_, rfl, rfl, rfl, fun _ _ => rfl, fun W hW => ?_⟩
    have c0 := fun i u hu => cell_below (hc 0 (a0, es0) rfl i u hu) hW
    have c1 := fun i u hu => cell_below (hc 1 (a1, es1) rfl i u hu) hW
    have c2 := fun i u hu => cell_below (hc 2 (a2, es2) rfl i u hu) hW
    have hPW := hP.below hW
    exact aggs_INDEX a0 a1 a2 es0 b off c tx W c0 c1 c2 (hPW.hE (a0, es0) (by simp)) s0 e0 n0 i1.1 i2.1
  rw [if_neg eINDEX] at ht hf ⊢
  by_cases eLOOKUP : (⟨#[76, 79, 79, 75, 85, 80]⟩ : ByteArray) = s
  · rw [if_pos eLOOKUP] at ht hf ⊢
    cases ht
    cases hf
    obtain rfl : n = 3 := by omega
    obtain ⟨⟨a0, es0⟩, ⟨a1, es1⟩, ⟨a2, es2⟩, rfl⟩ := len3 hlen
    obtain ⟨b, off, rfl, hc⟩ := args_cells hP (by decide)
    have n0 := hn9 (a0, es0) (by simp)
    have i0 := hP.h64 (a0, es0) (by simp)
    have o0 := hP.hok (a0, es0) (by simp)
    have n1 := hn9 (a1, es1) (by simp)
    have i1 := hP.h64 (a1, es1) (by simp)
    have o1 := hP.hok (a1, es1) (by simp)
    obtain ⟨s1, e1, r1, q1⟩ := rect_small o1 (kind_rect (i := 1) hkk (by decide) (by decide +kernel))
    have n2 := hn9 (a2, es2) (by simp)
    have i2 := hP.h64 (a2, es2) (by simp)
    have o2 := hP.hok (a2, es2) (by simp)
    obtain ⟨s2, e2, r2, q2⟩ := rect_small o2 (kind_rect (i := 2) hkk (by decide) (by decide +kernel))
    refine .inl ⟨_, rfl, rfl, rfl, fun _ _ => rfl, fun W hW => ?_⟩
    have c0 := fun i u hu => cell_below (hc 0 (a0, es0) rfl i u hu) hW
    have c1 := fun i u hu => cell_below (hc 1 (a1, es1) rfl i u hu) hW
    have c2 := fun i u hu => cell_below (hc 2 (a2, es2) rfl i u hu) hW
    have hPW := hP.below hW
    exact aggs_LOOKUP a0 a1 a2 es1 es2 b off c tx W c0 c1 c2 (hPW.hE (a1, es1) (by simp)) (hPW.hE (a2, es2) (by simp)) s1 s2 e1 e2 n1 n2 r1 q1
  rw [if_neg eLOOKUP] at ht hf ⊢
  by_cases eMATCH : (⟨#[77, 65, 84, 67, 72]⟩ : ByteArray) = s
  · rw [if_pos eMATCH] at ht hf ⊢
    cases ht
    cases hf
    obtain rfl : n = 2 := by omega
    obtain ⟨⟨a0, es0⟩, ⟨a1, es1⟩, rfl⟩ := len2 hlen
    obtain ⟨b, off, rfl, hc⟩ := args_cells hP (by decide)
    have n0 := hn9 (a0, es0) (by simp)
    have i0 := hP.h64 (a0, es0) (by simp)
    have o0 := hP.hok (a0, es0) (by simp)
    have n1 := hn9 (a1, es1) (by simp)
    have i1 := hP.h64 (a1, es1) (by simp)
    have o1 := hP.hok (a1, es1) (by simp)
    obtain ⟨s1, e1, r1, q1⟩ := rect_small o1 (kind_rect (i := 1) hkk (by decide) (by decide +kernel))
    refine .inl ⟨_, rfl, rfl, rfl, fun _ _ => rfl, fun W hW => ?_⟩
    have c0 := fun i u hu => cell_below (hc 0 (a0, es0) rfl i u hu) hW
    have c1 := fun i u hu => cell_below (hc 1 (a1, es1) rfl i u hu) hW
    have hPW := hP.below hW
    exact aggs_MATCH a0 a1 es1 b off c tx W c0 c1 (hPW.hE (a1, es1) (by simp)) s1 e1 n1 r1 q1
  rw [if_neg eMATCH] at ht hf ⊢
  by_cases eSUMIF : (⟨#[83, 85, 77, 73, 70]⟩ : ByteArray) = s
  · rw [if_pos eSUMIF] at ht hf ⊢
    cases ht
    cases hf
    obtain rfl : n = 3 := by omega
    obtain ⟨⟨a0, es0⟩, ⟨a1, es1⟩, ⟨a2, es2⟩, rfl⟩ := len3 hlen
    obtain ⟨b, off, rfl, hc⟩ := args_cells hP (by decide)
    have n0 := hn9 (a0, es0) (by simp)
    have i0 := hP.h64 (a0, es0) (by simp)
    have o0 := hP.hok (a0, es0) (by simp)
    obtain ⟨s0, e0, r0, q0⟩ := rect_small o0 (kind_rect (i := 0) hkk (by decide) (by decide +kernel))
    have n1 := hn9 (a1, es1) (by simp)
    have i1 := hP.h64 (a1, es1) (by simp)
    have o1 := hP.hok (a1, es1) (by simp)
    have n2 := hn9 (a2, es2) (by simp)
    have i2 := hP.h64 (a2, es2) (by simp)
    have o2 := hP.hok (a2, es2) (by simp)
    obtain ⟨s2, e2, r2, q2⟩ := rect_small o2 (kind_rect (i := 2) hkk (by decide) (by decide +kernel))
    refine .inl ⟨_, rfl, rfl, rfl, fun _ _ => rfl, fun W hW => ?_⟩
    have c0 := fun i u hu => cell_below (hc 0 (a0, es0) rfl i u hu) hW
    have c1 := fun i u hu => cell_below (hc 1 (a1, es1) rfl i u hu) hW
    have c2 := fun i u hu => cell_below (hc 2 (a2, es2) rfl i u hu) hW
    have hPW := hP.below hW
    exact aggs_SUMIF a0 a1 a2 es0 es2 b off c tx W c0 c1 c2 (hPW.hE (a0, es0) (by simp)) (hPW.hE (a2, es2) (by simp)) s0 s2 e0 e2 n0 n2 i2.2
  rw [if_neg eSUMIF] at ht hf ⊢
  by_cases eCOUNTIF : (⟨#[67, 79, 85, 78, 84, 73, 70]⟩ : ByteArray) = s
  · rw [if_pos eCOUNTIF] at ht hf ⊢
    cases ht
    cases hf
    obtain rfl : n = 2 := by omega
    obtain ⟨⟨a0, es0⟩, ⟨a1, es1⟩, rfl⟩ := len2 hlen
    obtain ⟨b, off, rfl, hc⟩ := args_cells hP (by decide)
    have n0 := hn9 (a0, es0) (by simp)
    have i0 := hP.h64 (a0, es0) (by simp)
    have o0 := hP.hok (a0, es0) (by simp)
    obtain ⟨s0, e0, r0, q0⟩ := rect_small o0 (kind_rect (i := 0) hkk (by decide) (by decide +kernel))
    have n1 := hn9 (a1, es1) (by simp)
    have i1 := hP.h64 (a1, es1) (by simp)
    have o1 := hP.hok (a1, es1) (by simp)
    refine .inl ⟨_, rfl, rfl, rfl, fun _ _ => rfl, fun W hW => ?_⟩
    have c0 := fun i u hu => cell_below (hc 0 (a0, es0) rfl i u hu) hW
    have c1 := fun i u hu => cell_below (hc 1 (a1, es1) rfl i u hu) hW
    have hPW := hP.below hW
    exact aggs_COUNTIF a0 a1 es0 b off c tx W c0 c1 (hPW.hE (a0, es0) (by simp)) s0 n0
  rw [if_neg eCOUNTIF] at ht hf ⊢
  by_cases eBLANKS : (⟨#[66, 76, 65, 78, 75, 83]⟩ : ByteArray) = s
  · rw [if_pos eBLANKS] at ht hf ⊢
    cases ht
    cases hf
    obtain rfl : n = 1 := by omega
    obtain ⟨⟨a0, es0⟩, rfl⟩ := len1 hlen
    obtain ⟨b, off, rfl, hc⟩ := args_cells hP (by decide)
    have n0 := hn9 (a0, es0) (by simp)
    have i0 := hP.h64 (a0, es0) (by simp)
    have o0 := hP.hok (a0, es0) (by simp)
    obtain ⟨s0, e0, r0, q0⟩ := rect_small o0 (kind_rect (i := 0) hkk (by decide) (by decide +kernel))
    refine .inl ⟨_, rfl, rfl, rfl, fun _ _ => rfl, fun W hW => ?_⟩
    have c0 := fun i u hu => cell_below (hc 0 (a0, es0) rfl i u hu) hW
    have hPW := hP.below hW
    exact aggs_BLANKS a0 es0 b off c tx W c0 (hPW.hE (a0, es0) (by simp)) s0 n0
  rw [if_neg eBLANKS] at ht hf ⊢
  by_cases eCOUNTA : (⟨#[67, 79, 85, 78, 84, 65]⟩ : ByteArray) = s
  · rw [if_pos eCOUNTA] at ht hf ⊢
    cases ht
    cases hf
    refine .inr ⟨_, _, rfl, rfl, rfl, fun _ _ => rfl, fun W hW => ?_⟩
    exact aggs_count _ _ (fun _ _ => rfl) _ (fun v W2 => aggs_isA v W2) pl A n c tx W (cell_below k12 hW) (hP.below hW)
  rw [if_neg eCOUNTA] at ht hf ⊢
  by_cases eCOUNT : (⟨#[67, 79, 85, 78, 84]⟩ : ByteArray) = s
  · rw [if_pos eCOUNT] at ht hf ⊢
    cases ht
    cases hf
    refine .inr ⟨_, _, rfl, rfl, rfl, fun _ _ => rfl, fun W hW => ?_⟩
    exact aggs_count _ _ (fun _ _ => rfl) _ (fun v W2 => aggs_isN v W2) pl A n c tx W (cell_below k11 hW) (hP.below hW)
  rw [if_neg eCOUNT] at ht hf ⊢
  by_cases eMEDIAN : (⟨#[77, 69, 68, 73, 65, 78]⟩ : ByteArray) = s
  · rw [if_pos eMEDIAN] at ht hf ⊢
    cases ht
    cases hf
    refine .inr ⟨_, _, rfl, rfl, rfl, fun _ _ => rfl, fun W hW => ?_⟩
    exact aggs_numbers1 _ _ _ (fun _ _ => rfl) pl A n c tx W (cell_below k10 hW) (hP.below hW) _ (fun W2 A2 c2 hW2 hR => aggs_some _ _ (fun _ _ => rfl) _ A2 c2 W2 (cell_below (cell_below k9 hW) hW2) hR _ (fun h0 W3 hW3 hR3 => aggs_median _ A2 c2 W3 hR3 h0 (by have := among_le (itemsG pl); have := hP.hT; omega) (among_63 hP)))
  rw [if_neg eMEDIAN] at ht hf ⊢
  by_cases eAVG : (⟨#[65, 86, 71]⟩ : ByteArray) = s
  · rw [if_pos eAVG] at ht hf ⊢
    cases ht
    cases hf
    refine .inr ⟨_, _, rfl, rfl, rfl, fun _ _ => rfl, fun W hW => ?_⟩
    exact aggs_numbers1 _ _ _ (fun _ _ => rfl) pl A n c tx W (cell_below k8 hW) (hP.below hW) _ (fun W2 A2 c2 hW2 hR => aggs_some _ _ (fun _ _ => rfl) _ A2 c2 W2 (cell_below (cell_below k7 hW) hW2) hR _ (fun h0 W3 hW3 hR3 => aggs_mean _ A2 _ c2 _ W3 hR3 h0 (by have := among_le (itemsG pl); have := hP.hT; omega) (among_63 hP)))
  rw [if_neg eAVG] at ht hf ⊢
  by_cases eMAX : (⟨#[77, 65, 88]⟩ : ByteArray) = s
  · rw [if_pos eMAX] at ht hf ⊢
    cases ht
    cases hf
    refine .inr ⟨_, _, rfl, rfl, rfl, fun _ _ => rfl, fun W hW => ?_⟩
    exact aggs_numbers1 _ _ _ (fun _ _ => rfl) pl A n c tx W (cell_below k6 hW) (hP.below hW) _ (fun W2 A2 c2 hW2 hR => aggs_some _ _ (fun _ _ => rfl) _ A2 c2 W2 (cell_below (cell_below k5 hW) hW2) hR _ (fun h0 W3 hW3 hR3 => max_call _ A2 c2 _ W3 hR3 h0 (by have := among_le (itemsG pl); have := hP.hT; omega)))
  rw [if_neg eMAX] at ht hf ⊢
  by_cases eMIN : (⟨#[77, 73, 78]⟩ : ByteArray) = s
  · rw [if_pos eMIN] at ht hf ⊢
    cases ht
    cases hf
    refine .inr ⟨_, _, rfl, rfl, rfl, fun _ _ => rfl, fun W hW => ?_⟩
    exact aggs_numbers1 _ _ _ (fun _ _ => rfl) pl A n c tx W (cell_below k4 hW) (hP.below hW) _ (fun W2 A2 c2 hW2 hR => aggs_some _ _ (fun _ _ => rfl) _ A2 c2 W2 (cell_below (cell_below k3 hW) hW2) hR _ (fun h0 W3 hW3 hR3 => min_call _ A2 c2 _ W3 hR3 h0 (by have := among_le (itemsG pl); have := hP.hT; omega)))
  rw [if_neg eMIN] at ht hf ⊢
  by_cases ePROD : (⟨#[80, 82, 79, 68]⟩ : ByteArray) = s
  · rw [if_pos ePROD] at ht hf ⊢
    cases ht
    cases hf
    refine .inr ⟨_, _, rfl, rfl, rfl, fun _ _ => rfl, fun W hW => ?_⟩
    exact aggs_numbers0 _ _ (fun _ _ => rfl) pl A n c tx W (cell_below k2 hW) (hP.below hW) _ (fun W2 A2 c2 hW2 hR => aggs_prod _ A2 _ c2 _ W2 hR (by have := among_le (itemsG pl); have := hP.hT; omega) (fun x hx => in64 (among_63 hP x hx)))
  rw [if_neg ePROD] at ht hf ⊢
  by_cases eSUM : (⟨#[83, 85, 77]⟩ : ByteArray) = s
  · rw [if_pos eSUM] at ht hf ⊢
    cases ht
    cases hf
    refine .inr ⟨_, _, rfl, rfl, rfl, fun _ _ => rfl, fun W hW => ?_⟩
    exact aggs_numbers0 _ _ (fun _ _ => rfl) pl A n c tx W (cell_below k1 hW) (hP.below hW) _ (fun W2 A2 c2 hW2 hR => aggs_sumit _ A2 c2 W2 hR (by have := among_le (itemsG pl); have := hP.hT; omega) (fun x hx => in64 (among_63 hP x hx)))
  rw [if_neg eSUM] at ht hf ⊢
  cases ht
end Go.Proofs.YtegbhdeaicgpkaaGreatDoor
namespace Go.Proofs.YtegbhdeaicgpkaaGreatDoor
open Go Go.RowKit
def aggsVals (s : ByteArray) (tx : Int) (vs : List V) (pl : List (Arg × List En)) : V := match vs.find? isF with
  | some v => v
  | none => aggDo s tx pl
def aggsCallX (s : ByteArray) (al : List Arg) (pl : List (Arg × List En)) (ok : Nat → Bool) (tx : Int) : V :=
  if tx < 0 ∨ 1024 < tx then errG 8
  else if (List.range al.length).all ok then if takesAgg s (al.map Arg.many) then aggsVals s tx (al.map Arg.val) pl else errG 8 else errG 8
theorem ite_keyA {α : Type} {p : Prop} [Decidable p] {a r : α} {b : Option α} (h : (if p then some a else b) = some r) : a = r ∨ b = some r := by
  by_cases hp : p
  · rw [if_pos hp] at h; exact .inl (Option.some.inj h)
  · rw [if_neg hp] at h; exact .inr h
theorem aggTab_bounds {s c : ByteArray} {x y : Int} (h : aggTab s = some (c, x, y)) : 1 ≤ x ∧ y ≤ 16 := by
  unfold aggTab at h
  iterate 18
    rcases ite_keyA h with e | h
    · cases e; decide
  cases h
theorem takesA_len {s : ByteArray} {xs : List Bool} (h : takesAgg s xs = true) : ∃ c x y, aggTab s = some (c, x, y) ∧ (x ≤ (xs.length : Int) ∧ (xs.length : Int) ≤ y) ∧ 1 ≤ xs.length ∧ xs.length ≤ 16 ∧ kindsOk c xs xs.length = true := by
  unfold takesAgg at h
  cases e : aggTab s with
  | none => rw [e] at h; cases h
  | some p =>
    obtain ⟨c, x, y⟩ := p
    rw [e] at h
    simp only [Bool.and_eq_true, decide_eq_true_eq] at h
    have := aggTab_bounds e
    exact ⟨c, x, y, rfl, h.1, by omega, by omega, h.2⟩
set_option maxRecDepth 100000 in
set_option maxHeartbeats 4000000 in
theorem aggs_Call (s : ByteArray) (al : List Arg) (pl : List (Arg × List En)) (hal : al = pl.map Prod.fst) (A : Option Addr) (n c : Nat) (tx : Int) (w : World) (hr : Reads w w.heap.size 11 A n (argFlat al)) (hm : n ≤ 1000000000000) (hcap : n ≤ c) (h64 : ∀ a ∈ al, Is64 a.val.num) (ok : Nat → Bool)
    (hok : ∀ j a, al[j]? = some a → ∀ W, Below w.heap.size w W → Calls Tryz.prog 38 #[a.agg] W fun e w' => e = .returned (.bool (ok j)) ∧ Below W.heap.size W w')
    (hokA : ∀ j p, pl[j]? = some p → ok j = argOk p.1 p.2) (hE : ∀ p ∈ pl, EntsAt w p.1 p.2) (h64e : ∀ p ∈ pl, ∀ e ∈ p.2, Is64 e.v.num) (hT : n ≤ 16 → (itemsG pl).length ≤ 20000000) (hsz : ∀ q ∈ pl, q.1.val.str.size ≤ 1048576 ∧ ∀ e ∈ q.2, e.v.str.size ≤ 1048576) (hn9 : ∀ q ∈ pl, q.1.n ≤ 1000000000) (hp : Pow10 w) :
    Calls Tryz.prog 14 #[.string s, .slice A n c, .int .i64 tx] w fun e w' => e = .returned (Value.agg #[Value.int .i64 (aggsCallX s al pl ok tx).tag, Value.int .i64 (aggsCallX s al pl ok tx).num, Value.string (aggsCallX s al pl ok tx).str, Value.bool (aggsCallX s al pl ok tx).is, Value.int .i64 (aggsCallX s al pl ok tx).code]) ∧ Below w.heap.size w w' := by
  have HALL0 := Lib.hid (show (∀ k, k < al.length → ok k = true) → n ≤ 16 → (ArgsAt w pl A n ∧ (itemsG pl).length ≤ 20000000) from fun h h16 => ⟨⟨by rw [← hal]; exact hr, hE, by have := hT h16; omega, hm, fun p hp => by have := hn9 p hp; omega, fun p hp => ⟨h64 p.1 (by rw [hal]; exact List.mem_map_of_mem hp), h64e p hp⟩, fun p hp => by
    obtain ⟨j, hj⟩ := List.getElem?_of_mem hp
    rw [← hokA j p hj]
    exact h j (by rw [hal, List.length_map]; exact (List.getElem?_eq_some_iff.1 hj).1)⟩, hT h16⟩)
  have HSZ := Lib.hid hsz
  have HN9 := Lib.hid hn9
  have HP := Lib.hid hp
  have HAL := Lib.hid hal
  clear hokA hE h64e hT hsz hn9 hp hal
  have hlen : al.length = n := by
    have := hr.1
    rw [argFlat_length] at this
    omega
  obtain ⟨bs, hbs⟩ : ∃ bs, bs = (al.map Arg.many).map Value.bool := ⟨_, rfl⟩
  have hbl : bs.length = n := by rw [hbs]; simp [hlen]
  have hbx : ∀ (j : Nat) (x : Arg), al[j]? = some x → bs[j]? = some (.bool x.many) := fun j x hx => by rw [hbs, List.getElem?_map, List.getElem?_map, hx]; rfl
  obtain ⟨R, hR⟩ : ∃ R, aggsCallX s al pl ok tx = R := ⟨_, rfl⟩
  rw [hR]
  have HBX := Lib.hid hbx
  have HBS := Lib.hid hbs
  have HR := Lib.hid hr
  have HOK := Lib.hid hok
  have HRX := Lib.hid hR
  have H64 := Lib.hid h64
  have HLEN := Lib.hid hlen
  clear hbx hbs hr hok hR h64
  obtain ⟨i0, hi, hz0, hz1, hz2⟩ := info_parts info_B
  by_cases ht0 : tx < 0
  · have HRR := Lib.hid (show R = errG 8 by rw [← HRX.out]; exact if_pos (.inl ht0))
    go_enter Tryz.func14, Tryz.ntmps14
    go_wp2_with (first | (go_at_call 27; refine (value_Err _ _).mono ?_; rintro e w3 ⟨rfl, hb⟩; obtain ⟨l3, q3, rfl⟩ := more_of_below hb; clear hb))
    all_goals go_returns
    all_goals exact ⟨by rw [HRR.out], (by (with_reducible repeat' (first | exact .refl _ _ | assumption | refine bmP ?_ ?_ | refine baP ?_ _ ?_ | refine .drew ?_ | refine .setCell ?_ ?_ _ | refine bdP ?_ _)) <;> go_size)⟩
  by_cases ht1 : 1024 < tx
  · have HRR := Lib.hid (show R = errG 8 by rw [← HRX.out]; exact if_pos (.inr ht1))
    go_enter Tryz.func14, Tryz.ntmps14
    go_wp2_with (first | (go_at_call 27; refine (value_Err _ _).mono ?_; rintro e w3 ⟨rfl, hb⟩; obtain ⟨l3, q3, rfl⟩ := more_of_below hb; clear hb))
    all_goals go_returns
    all_goals exact ⟨by rw [HRR.out], (by (with_reducible repeat' (first | exact .refl _ _ | assumption | refine bmP ?_ ?_ | refine baP ?_ _ ?_ | refine .drew ?_ | refine .setCell ?_ ?_ _ | refine bdP ?_ _)) <;> go_size)⟩
  have HRX := Lib.hid (show (if (List.range al.length).all ok then if takesAgg s (al.map Arg.many) then aggsVals s tx (al.map Arg.val) pl else errG 8 else errG 8) = R from (if_neg (show ¬ (tx < 0 ∨ 1024 < tx) by omega)).symm.trans HRX.out)
  go_enter Tryz.func14, Tryz.ntmps14
  go_wp2
  go_loopw [23, 7] (fun t v wr => ∃ j : Nat, j ≤ n ∧ t = .int .i64 j ∧ (∀ k, k < j → ok k = true) ∧ GathRel (w.alloc zeroV) wr 4 1 v j (bs.take j)) (fun t _ _ => n - (intOf t).toNat)
  case atStart => exact ⟨0, Nat.zero_le _, rfl, fun k hk => by omega, Below.refl _ _, World.ownsRow_nil _ _ _ _⟩
  case round =>
    obtain ⟨j, hj, rfl, hall, hG⟩ := hrel
    have hw0 : Below w.heap.size w (w.alloc zeroV) := (by (with_reducible repeat' (first | exact .refl _ _ | assumption | refine bmP ?_ ?_ | refine baP ?_ _ ?_ | refine .drew ?_ | refine .setCell ?_ ?_ _ | refine bdP ?_ _)) <;> go_size)
    have hwr : Below w.heap.size w wr := hw0.trans (hG.1.mono hw0.size)
    have hws := hwr.size
    have HWR := Lib.hid hwr
    have HALL := Lib.hid hall
    have HG := Lib.hid hG
    clear hall hG hwr hw0
    by_cases hlt : j < n
    · obtain ⟨a, ha⟩ : ∃ a, al[j]? = some a := ⟨_, List.getElem?_eq_getElem (show j < al.length by omega)⟩
      obtain ⟨bk, off, rfl, _, hc⟩ := HR.out.2 (by omega)
      have hcell : ∀ i u, a.cells[i]? = some u → wr.cell? ⟨bk, off + (j * 11 + i), none⟩ = some u := fun i u hu => by
        have h1 := hc _ u (argFlat_at al j a ha i u hu)
        exact (HWR.out.cell (p := ⟨bk, _, none⟩) (World.block_lt_of_cell? w _ h1)).trans h1
      have c0 := hcell 0 _ rfl
      have c1 := hcell 1 _ rfl
      have c2 := hcell 2 _ rfl
      have c3 := hcell 3 _ rfl
      have c4 := hcell 4 _ rfl
      have c5 := hcell 5 _ rfl
      have c6 := hcell 6 _ rfl
      have c7 := hcell 7 _ rfl
      have c8 := hcell 8 _ rfl
      have c9 := hcell 9 _ rfl
      have c10 := hcell 10 _ rfl
      simp only [← Nat.add_assoc, Nat.add_zero] at c0 c1 c2 c3 c4 c5 c6 c7 c8 c9 c10
      have hbr : bk < wr.heap.size := World.block_lt_of_cell? wr _ c0
      have HCW := Lib.hid (fun i u (hu : a.cells[i]? = some u) => hc _ u (argFlat_at al j a ha i u hu))
      clear hcell hc
      have HAJ := Lib.hid ha
      have hokj := HOK.out j a ha
      obtain ⟨z, hz⟩ : ∃ z, ok j = z := ⟨_, rfl⟩
      rw [hz] at hokj
      have HMH := Lib.hid (fun W (hB : Below wr.heap.size wr W) => hokj W (HWR.out.trans (hB.mono hws)))
      clear hokj ha
      cases z
      · have HRR := Lib.hid (show R = errG 8 by rw [← HRX.out, HLEN.out, all_no hlt hz]; rfl)
        clear hz
        obtain ⟨l0, q0, hwe⟩ := more_of_below HG.out.1
        subst hwe
        unfold zeroV at *
        clear c0 c1 c2 c3 c4 c5 c6 c7 c8 c9 c10 hbr
        have c0 := HCW.out 0 _ rfl
        have c1 := HCW.out 1 _ rfl
        have c2 := HCW.out 2 _ rfl
        have c3 := HCW.out 3 _ rfl
        have c4 := HCW.out 4 _ rfl
        have c5 := HCW.out 5 _ rfl
        have c6 := HCW.out 6 _ rfl
        have c7 := HCW.out 7 _ rfl
        have c8 := HCW.out 8 _ rfl
        have c9 := HCW.out 9 _ rfl
        have c10 := HCW.out 10 _ rfl
        simp only [← Nat.add_assoc, Nat.add_zero] at c0 c1 c2 c3 c4 c5 c6 c7 c8 c9 c10
        have hbw : bk < w.heap.size := World.block_lt_of_cell? w _ c0
        go_wp2_with (first | (go_at_call 38; refine (HMH.out _ (by (with_reducible repeat' (first | exact .refl _ _ | assumption | refine bmP ?_ ?_ | refine baP ?_ _ ?_ | refine .drew ?_ | refine .setCell ?_ ?_ _ | refine bdP ?_ _)) <;> go_size)).mono ?_; rintro e w2 ⟨rfl, hb⟩; obtain ⟨l2, q2, rfl⟩ := more_of_below hb; clear hb) | (go_at_call 27; refine (value_Err _ _).mono ?_; rintro e w3 ⟨rfl, hb⟩; obtain ⟨l3, q3, rfl⟩ := more_of_below hb; clear hb))
        all_goals go_returns
        all_goals exact ⟨by rw [HRR.out], (by (with_reducible repeat' (first | exact .refl _ _ | assumption | refine bmP ?_ ?_ | refine baP ?_ _ ?_ | refine .drew ?_ | refine .setCell ?_ ?_ _ | refine bdP ?_ _)) <;> go_size)⟩
      · have HZ := Lib.hid hz
        clear hz
        go_wp2_with (first | (go_at_call 38; refine (HMH.out _ (by (with_reducible repeat' (first | exact .refl _ _ | assumption | refine bmP ?_ ?_ | refine baP ?_ _ ?_ | refine .drew ?_ | refine .setCell ?_ ?_ _ | refine bdP ?_ _)) <;> go_size)).mono ?_; rintro e w2 ⟨rfl, hb⟩; obtain ⟨l2, q2, rfl⟩ := more_of_below hb; clear hb) | (at_builtin; refine wpList_append_own _ rfl _ _ 34 rfl (w.alloc zeroV).heap.size 4 i0 _ 1 1 Tryz.underlying34 hi hz0 hz1 hz2 rfl (by decide) _ _ _ rfl (own_below HG.out.2 (by (with_reducible repeat' (first | exact .refl _ _ | assumption | refine bmP ?_ ?_ | refine baP ?_ _ ?_ | refine .drew ?_ | refine .setCell ?_ ?_ _ | refine bdP ?_ _)) <;> go_size)) _ 1 1 [.bool a.many] rfl rfl ?_ ?_ ?_ ?_ ?_ ?_))
        · exact fun i u hu => fresh_cells (by simp) i u hu
        · intro u hu; simp only [List.mem_cons, List.not_mem_nil, or_false] at hu; subst hu; rfl
        · simp only [maxLen]; omega
        · omega
        · have h1 := HG.out.1.size
          simp at h1 ⊢
          omega
        · intro v' w3 hown' hgrow _
          have R := GathRel.step HG.out (by (with_reducible repeat' (first | exact .refl _ _ | assumption | refine bmP ?_ ?_ | refine baP ?_ _ ?_ | refine .drew ?_ | refine .setCell ?_ ?_ _ | refine bdP ?_ _)) <;> go_size) (show w3.ownsRow (w.alloc zeroV).heap.size 4 1 v' (j + 1) (bs.take j ++ [.bool a.many]) from by simpa using hown') hgrow
          rw [← take_one (HBX.out j a HAJ.out)] at R
          have HG' := Lib.hid R
          clear hown' hgrow R HG c0 c1 c2 c3 c4 c5 c6 c7 c8 c9 c10
          go_wp2
          go_roundw
          case rel => exact ⟨j + 1, by omega, by go_num, fun k hk => by (by_cases e : k = j; (subst e; exact HZ.out); exact HALL.out k (by omega)), HG'.out⟩
          case measure => simp [intOf]; omega
    · obtain rfl : j = n := by omega
      have hG := HG.out
      rw [List.take_of_length_le (by omega)] at hG
      obtain ⟨hB, hO⟩ := hG
      obtain ⟨xsB, hxb⟩ : ∃ xsB, xsB = al.map Arg.many := ⟨_, rfl⟩
      rw [HBS.out, ← hxb] at hO
      obtain ⟨A', c', rfl⟩ := own_sliceN hO
      have HRD := Lib.hid (Reads.of_own hO)
      have hall : (List.range al.length).all ok = true := by
        rw [HLEN.out, List.all_eq_true]
        intro k hk
        exact HALL.out k (List.mem_range.1 hk)
      have HALL := Lib.hid (show ∀ k, k < al.length → ok k = true from fun k hk => HALL.out k (by have := HLEN.out; omega))
      obtain ⟨tk, htk⟩ : ∃ tk, takesAgg s xsB = tk := ⟨_, rfl⟩
      have hR2 : R = if tk then aggsVals s tx (al.map Arg.val) pl else errG 8 := by rw [← HRX.out, if_pos hall, ← hxb, htk]
      have HTK := Lib.hid htk
      have hxl : xsB.length = j := by rw [hxb, List.length_map, HLEN.out]
      have HXL := Lib.hid hxl
      have HXB := Lib.hid hxb
      obtain ⟨l0, q0, rfl⟩ := more_of_below hB
      clear hO hB HG hall hxb htk hxl HWR hws HOK
      cases tk
      · have HRR := Lib.hid (show R = errG 8 from hR2)
        clear hR2
        unfold zeroV at *
        go_wp2_with (first | (go_at_call 39; refine (aggs_Takes s A' j c' xsB _ _ HRD.out (by omega)).mono ?_; rw [HTK.out]; rintro e w4 ⟨rfl, hb⟩; obtain ⟨l4, q4, rfl⟩ := more_of_below hb; clear hb) | (go_at_call 27; refine (value_Err _ _).mono ?_; rintro e w3 ⟨rfl, hb⟩; obtain ⟨l3, q3, rfl⟩ := more_of_below hb; clear hb))
        all_goals go_returns
        all_goals exact ⟨by rw [HRR.out], (by (with_reducible repeat' (first | exact .refl _ _ | assumption | refine bmP ?_ ?_ | refine baP ?_ _ ?_ | refine .drew ?_ | refine .setCell ?_ ?_ _ | refine bdP ?_ _)) <;> go_size)⟩
      · have HR2 := Lib.hid (show R = aggsVals s tx (al.map Arg.val) pl from hR2)
        obtain ⟨cK, x, y, ht, hbt, hn1, hn16, hkk⟩ := takesA_len HTK.out
        rw [HXL.out] at hkk
        rw [HXL.out] at hbt hn1 hn16
        have HT := Lib.hid ht
        have HBT := Lib.hid hbt
        clear hR2 ht hbt
        obtain ⟨vs, hvs⟩ : ∃ vs, vs = al.map Arg.val := ⟨_, rfl⟩
        have hva : ∀ (j : Nat) (x : Arg), al[j]? = some x → vs[j]? = some x.val := fun j x hx => by rw [hvs, List.getElem?_map, hx]; rfl
        have hvl : vs.length = j := by rw [hvs, List.length_map, HLEN.out]
        rw [← hvs] at HR2
        have HVA := Lib.hid hva
        clear hva hvs
        obtain ⟨n, hn⟩ : ∃ n, n = j := ⟨_, rfl⟩
        subst hn
        go_wp2_with (first | (go_at_call 39; refine (aggs_Takes s A' n c' xsB _ _ HRD.out (by omega)).mono ?_; rw [HTK.out]; rintro e w4 ⟨rfl, hb⟩; obtain ⟨l4, q4, rfl⟩ := more_of_below hb; clear hb))
        go_loopw [44] (fun t wr => ∃ j : Nat, j ≤ n ∧ t = .int .i64 j ∧ (vs.take j).find? isF = none ∧ Below (w.alloc zeroV).heap.size (w.alloc zeroV) wr) (fun t _ => n - (intOf t).toNat)
        case atStart => exact ⟨0, Nat.zero_le _, rfl, rfl, (by (with_reducible repeat' (first | exact .refl _ _ | assumption | refine bmP ?_ ?_ | refine baP ?_ _ ?_ | refine .drew ?_ | refine .setCell ?_ ?_ _ | refine bdP ?_ _)) <;> go_size)⟩
        case round =>
          obtain ⟨j, hj, rfl, hno, hB0⟩ := hrel
          have hw0 : Below w.heap.size w (w.alloc zeroV) := (by (with_reducible repeat' (first | exact .refl _ _ | assumption | refine bmP ?_ ?_ | refine baP ?_ _ ?_ | refine .drew ?_ | refine .setCell ?_ ?_ _ | refine bdP ?_ _)) <;> go_size)
          have hwr : Below w.heap.size w wr := hw0.trans (hB0.mono hw0.size)
          have hws := hwr.size
          have HWR := Lib.hid hwr
          have HNO := Lib.hid hno
          have HB0 := Lib.hid hB0
          clear hno hB0 hwr hw0
          by_cases hlt : j < n
          · obtain ⟨a, ha⟩ : ∃ a, al[j]? = some a := ⟨_, List.getElem?_eq_getElem (show j < al.length by have := HLEN.out; omega)⟩
            obtain ⟨bk, off, rfl, _, hc⟩ := HR.out.2 (by omega)
            have hcell : ∀ i u, a.cells[i]? = some u → wr.cell? ⟨bk, off + (j * 11 + i), none⟩ = some u := fun i u hu => by
              have h1 := hc _ u (argFlat_at al j a ha i u hu)
              exact (HWR.out.cell (p := ⟨bk, _, none⟩) (World.block_lt_of_cell? w _ h1)).trans h1
            have c0 := hcell 0 _ rfl
            have c1 := hcell 1 _ rfl
            have c2 := hcell 2 _ rfl
            have c3 := hcell 3 _ rfl
            have c4 := hcell 4 _ rfl
            have c5 := hcell 5 _ rfl
            have c6 := hcell 6 _ rfl
            have c7 := hcell 7 _ rfl
            have c8 := hcell 8 _ rfl
            have c9 := hcell 9 _ rfl
            have c10 := hcell 10 _ rfl
            simp only [← Nat.add_assoc, Nat.add_zero] at c0 c1 c2 c3 c4 c5 c6 c7 c8 c9 c10
            have hbr : bk < wr.heap.size := World.block_lt_of_cell? wr _ c0
            have HCW := Lib.hid (fun i u (hu : a.cells[i]? = some u) => hc _ u (argFlat_at al j a ha i u hu))
            clear hcell hc
            have hvj := HVA.out j a ha
            clear ha
            by_cases hf : a.val.tag = 4
            · have HRR := Lib.hid (show R = a.val by rw [HR2.out]; unfold aggsVals; rw [find_yes hvj HNO.out (by simp [isF, hf])])
              have hf' : (a.val.tag == 4) = true := by simp [hf]
              clear hf hvj
              obtain ⟨l0, q0, hwe⟩ := more_of_below HB0.out
              subst hwe
              unfold zeroV at *
              clear c0 c1 c2 c3 c4 c5 c6 c7 c8 c9 c10 hbr
              have c0 := HCW.out 0 _ rfl
              have c1 := HCW.out 1 _ rfl
              have c2 := HCW.out 2 _ rfl
              have c3 := HCW.out 3 _ rfl
              have c4 := HCW.out 4 _ rfl
              have c5 := HCW.out 5 _ rfl
              have c6 := HCW.out 6 _ rfl
              have c7 := HCW.out 7 _ rfl
              have c8 := HCW.out 8 _ rfl
              have c9 := HCW.out 9 _ rfl
              have c10 := HCW.out 10 _ rfl
              simp only [← Nat.add_assoc, Nat.add_zero] at c0 c1 c2 c3 c4 c5 c6 c7 c8 c9 c10
              have hbw : bk < w.heap.size := World.block_lt_of_cell? w _ c0
              go_wp2
              all_goals go_returns
              all_goals exact ⟨by rw [HRR.out], (by (with_reducible repeat' (first | exact .refl _ _ | assumption | refine bmP ?_ ?_ | refine baP ?_ _ ?_ | refine .drew ?_ | refine .setCell ?_ ?_ _ | refine bdP ?_ _)) <;> go_size)⟩
            · have HN2 := Lib.hid (find_no hvj HNO.out (by simp [isF, hf]))
              have hf' : (a.val.tag == 4) = false := by simp [hf]
              clear hf hvj
              go_wp2
              go_roundw
              case rel => exact ⟨j + 1, by omega, by go_num, HN2.out, HB0.out.trans ((show Below wr.heap.size wr _ from (by (with_reducible repeat' (first | exact .refl _ _ | assumption | refine bmP ?_ ?_ | refine baP ?_ _ ?_ | refine .drew ?_ | refine .setCell ?_ ?_ _ | refine bdP ?_ _)) <;> go_size)).mono HB0.out.size)⟩
              case measure => simp [intOf]; omega
          · obtain rfl : j = n := by omega
            have hno := HNO.out
            rw [List.take_of_length_le (by omega)] at hno
            have HR3 := Lib.hid (show R = aggDo s tx pl by rw [HR2.out]; unfold aggsVals; rw [hno])
            clear hno HNO
            obtain ⟨l5, q5, hwe⟩ := more_of_below HB0.out
            subst hwe
            obtain ⟨n, hn⟩ : ∃ n, n = j := ⟨_, rfl⟩
            subst hn
            obtain ⟨hPA, hT7⟩ := HALL0.out (fun k hk => HALL.out k (by have := HLEN.out; omega)) hn16
            have HPA := Lib.hid hPA
            unfold zeroV at *
            go_wp2_with fail
            go_at_call 37
            refine (aggs_find_yes s cK x y HT.out _).mono ?_
            rintro e wf ⟨⟨fn, first, cap, rfl, p1, hfn, hk⟩, hb⟩
            obtain ⟨l7, q7, rfl⟩ := more_of_below hb
            rw [more_more] at hk ⊢
            obtain ⟨l, hl⟩ : ∃ l, l = l5 ++ l7 := ⟨_, rfl⟩
            rw [← hl] at hk ⊢
            clear hb hl
            have hbw : Below w.heap.size w (more (w.alloc (.cells #[.int .i64 0, .int .i64 0, .string ⟨#[]⟩, .bool false, .int .i64 0] 29)) l q7) := (by (with_reducible repeat' (first | exact .refl _ _ | assumption | refine bmP ?_ ?_ | refine baP ?_ _ ?_ | refine .drew ?_ | refine .setCell ?_ ?_ _ | refine bdP ?_ _)) <;> go_size)
            have hlp : pl.length = n := by have := HLEN.out; rw [HAL.out, List.length_map] at this; exact this
            have hD := agg_do HT.out hfn hk pl A n c tx (by omega) (HPA.out.below hbw) hlp HBT.out.1 HBT.out.2 hcap (by have h1 := hkk; rw [HXB.out, HAL.out, List.map_map] at h1; exact h1) hT7 HSZ.out HN9.out (HP.out.below hbw (Nat.le_refl _))
            rw [← HR3.out] at hD
            rcases hD with ⟨k, rfl, rfl, rfl, hk2, hc⟩ | ⟨k, p, rfl, rfl, rfl, hk2, hc⟩
            · have HC := Lib.hid hc
              clear hc hk hfn hbw hPA hT7
              go_wp2_with (with_reducible refine Calls.mono (HC.out _ (by (with_reducible repeat' (first | exact .refl _ _ | assumption | refine bmP ?_ ?_ | refine baP ?_ _ ?_ | refine .drew ?_ | refine .setCell ?_ ?_ _ | refine bdP ?_ _)) <;> go_size)) ?_; rintro e w5 ⟨rfl, hb⟩; obtain ⟨l8, q8, rfl⟩ := more_of_below hb; clear hb)
              all_goals go_returns
              all_goals exact ⟨rfl, (by (with_reducible repeat' (first | exact .refl _ _ | assumption | refine bmP ?_ ?_ | refine baP ?_ _ ?_ | refine .drew ?_ | refine .setCell ?_ ?_ _ | refine bdP ?_ _)) <;> go_size)⟩
            · have HC := Lib.hid hc
              clear hc hk hfn hbw hPA hT7
              go_wp2_with (with_reducible refine Calls.mono (HC.out _ (by (with_reducible repeat' (first | exact .refl _ _ | assumption | refine bmP ?_ ?_ | refine baP ?_ _ ?_ | refine .drew ?_ | refine .setCell ?_ ?_ _ | refine bdP ?_ _)) <;> go_size)) ?_; rintro e w5 ⟨rfl, hb⟩; obtain ⟨l8, q8, rfl⟩ := more_of_below hb; clear hb)
              all_goals go_returns
              all_goals exact ⟨rfl, (by (with_reducible repeat' (first | exact .refl _ _ | assumption | refine bmP ?_ ?_ | refine baP ?_ _ ?_ | refine .drew ?_ | refine .setCell ?_ ?_ _ | refine bdP ?_ _)) <;> go_size)⟩
end Go.Proofs.YtegbhdeaicgpkaaGreatDoor
