/-
  The table's Call of single arguments; the statements' known.
-/
import Derived.Test.YtpcihefhagipmaaGreatDoorCall
namespace Go.Proofs.YtpcihefhagipmaaGreatDoor
open Go Go.RowKit

theorem ownTab_low {s : ByteArray} {x y : Int} {d : Doer} (h : ownTab s = some (x, y, d)) : 1 ≤ x := by
  unfold ownTab at h
  iterate 16
    rcases ite_some h with e | h
    · cases e; decide
  cases h

def callS (s : ByteArray) (vs : List V) (r : V) : V := if vs.all mayG && takesAll s (vs.map fun _ => false) then r else errG 8
theorem callG_single (s : ByteArray) (vs : List V) (r : V) : callG (fun a => mayG a.val) s (vs.map single) r = callS s vs r := by
  unfold callG callS
  rw [List.all_map, List.map_map]
  rfl
theorem vals_single (vs : List V) : (vs.map single).map Arg.val = vs := by
  rw [List.map_map]
  exact List.map_id _

theorem call_plain (b k : Nat) (hk : ∀ (args : Array Value) (w : World), Sem.run Tryz.prog (callFunc k args) w = .ok (.enter k args) w) (tx : Int) (s : ByteArray) (x y : Int) (ho : ownTab s = some (x, y, .plain k)) (vs : List V) (A : Option Addr) (n c B : Nat) (w : World) (h : Ready w b)
    (hr : Reads w B 11 A n (argFlat (vs.map single))) (hm : n ≤ 1000000000000) (r : V)
    (hd : ∀ w' g c', Below w.heap.size w w' → Held w' g vs → between x y n = true → vs.all mayG = true → Calls Tryz.prog k #[.slice (some ⟨g, 0, none⟩) n c'] w' fun e w'' => e = .returned (Value.agg #[Value.int .i64 (r).tag, Value.int .i64 (r).num, Value.string (r).str, Value.bool (r).is, Value.int .i64 (r).code]) ∧ Below w'.heap.size w' w'') :
    Calls Tryz.prog 10 #[.pointer (some ⟨b, 0, none⟩), .string s, .slice A n c, .int .i64 tx] w fun e w' => e = .returned (Value.agg #[Value.int .i64 (callS s vs r).tag, Value.int .i64 (callS s vs r).num, Value.string (callS s vs r).str, Value.bool (callS s vs r).is, Value.int .i64 (callS s vs r).code]) ∧ Below w.heap.size w w' := by
  rw [← callG_single]
  refine table_CallOwn b tx s x y (.plain k) ho (fun a => mayG a.val) (vs.map single) A n c B w h hr hm (fun a ha w' _ => ?_) r (fun w' pd f hb hc hD hbt hall => ?_)
  · obtain ⟨v, _, rfl⟩ := List.mem_map.1 ha
    exact may_single v w'
  · have hx := ownTab_low ho
    have h0 : 0 < n := by
      simp only [between, Bool.and_eq_true, decide_eq_true_eq] at hbt
      omega
    have hf : f = .func (.func k) #[] #[] := hD
    subst hf
    refine gather0 pd k hk tx (vs.map single) A n c B w' hc ?_ hm h0 r fun w'' g c' hb' hH => ?_
    · exact hr.keeps (keeps_below hb)
    · rw [vals_single] at hH
      exact hd w'' g c' (hb.trans (hb'.mono hb.size)) hH hbt (by rw [List.all_map] at hall; exact hall)

set_option maxRecDepth 100000 in
theorem table_KnownR (b : Nat) (s : ByteArray) (w : World) (h : Ready w b) : Calls Tryz.prog 15 #[.pointer (some ⟨b, 0, none⟩), .string s] w fun e w' => e = .returned (.bool (D1 50 s)) ∧ Below w.heap.size w w' := by
  obtain ⟨d0, m, hd, h0, h3, hM⟩ := h
  have HMI := Lib.hid hM
  have hml := hM.lt
  have hbl := cell_lt h0
  clear hM
  go_enter Tryz.func15, Tryz.ntmps15
  go_wp2_with (first | (go_at_call 20; refine (table_allR b _ d0 m hd (by go_simp) (by go_simp)).mono ?_; rintro e w1 ⟨rfl, hb⟩; obtain ⟨l, q, rfl⟩ := more_of_below hb; clear hb) | (at_lookup; refine wpList_lookI (HMI.out.below (by repeat (first | with_reducible exact Below.refl _ _ | with_reducible assumption | with_reducible refine below_more' ?_ (by go_size) | with_reducible refine bel_alloc ?_ _ (by go_size) | with_reducible refine Below.drew ?_ | with_reducible refine Below.setCell ?_ (by go_size) _ | with_reducible refine below_drewN ?_ _))) _ _ rfl rfl rfl _ rfl ?_ ?_))
  · intro fn first cap fn1 first1 cap1 hv
    go_wp2
    go_ret
    exact ⟨by rw [hv.out.2]; rfl, (by repeat (first | with_reducible exact Below.refl _ _ | with_reducible assumption | with_reducible refine below_more' ?_ (by go_size) | with_reducible refine bel_alloc ?_ _ (by go_size) | with_reducible refine Below.drew ?_ | with_reducible refine Below.setCell ?_ (by go_size) _ | with_reducible refine below_drewN ?_ _))⟩
  · intro hv
    go_wp2
    go_ret
    exact ⟨by rw [hv.out]; rfl, (by repeat (first | with_reducible exact Below.refl _ _ | with_reducible assumption | with_reducible refine below_more' ?_ (by go_size) | with_reducible refine bel_alloc ?_ _ (by go_size) | with_reducible refine Below.drew ?_ | with_reducible refine Below.setCell ?_ (by go_size) _ | with_reducible refine below_drewN ?_ _))⟩

theorem law_single (v : V) (w : World) : Calls Tryz.prog 9 #[(Value.agg #[Value.int .i64 (v).tag, Value.int .i64 (v).num, Value.string (v).str, Value.bool (v).is, Value.int .i64 (v).code])] w fun e w' => e = .returned (.agg #[.bool false, .int .i64 v.tag, .int .i64 v.num, .string v.str, .bool v.is, .int .i64 v.code, .int .i64 0, .int .i64 0, .int .i64 0, .int .i64 0, .slice none 0 0]) ∧ Below w.heap.size w w' := by
  go_enter Tryz.func9, Tryz.ntmps9
  go_wp2
  go_returns
  exact ⟨rfl, (by repeat (first | with_reducible exact Below.refl _ _ | with_reducible assumption | with_reducible refine below_more' ?_ (by go_size) | with_reducible refine bel_alloc ?_ _ (by go_size) | with_reducible refine Below.drew ?_ | with_reducible refine Below.setCell ?_ (by go_size) _ | with_reducible refine below_drewN ?_ _))⟩
theorem law_truth (b : Bool) (w : World) : Calls Tryz.prog 11 #[.bool b] w fun e w' => e = .returned (Value.agg #[Value.int .i64 (truthG b).tag, Value.int .i64 (truthG b).num, Value.string (truthG b).str, Value.bool (truthG b).is, Value.int .i64 (truthG b).code]) ∧ Below w.heap.size w w' := by
  go_enter Tryz.func11, Tryz.ntmps11
  go_wp2
  go_returns
  exact ⟨rfl, (by repeat (first | with_reducible exact Below.refl _ _ | with_reducible assumption | with_reducible refine below_more' ?_ (by go_size) | with_reducible refine bel_alloc ?_ _ (by go_size) | with_reducible refine Below.drew ?_ | with_reducible refine Below.setCell ?_ (by go_size) _ | with_reducible refine below_drewN ?_ _))⟩
theorem reads_new {W : World} {cs : Array Value} {t : TypeId} {n size g B : Nat} {xs : List Value} (hg : g = W.heap.size) (hB : g < B) (hx : xs = cs.toList) (hl : xs.length = n * size) : Reads (W.alloc (.cells cs t)) B size (some ⟨g, 0, none⟩) n xs := by
  subst hg
  refine ⟨hl, fun _ => ⟨W.heap.size, 0, rfl, hB, fun j u hu => ?_⟩⟩
  rw [Nat.zero_add, cell_of_row (W.alloc (.cells cs t)) W.heap.size j cs t (0, 0) (heap_alloc_new W _)]
  subst hx
  simpa using hu
def oneV : V := ⟨1, 10000, ⟨#[]⟩, false, 0⟩
set_option maxRecDepth 100000 in
theorem known_if (b : Nat) (A : Option Addr) (c : Nat) (w : World) (h : Ready w b) (hr : Reads w w.heap.size 11 A 2 (argFlat ([truthG true, oneV].map single))) :
    Calls Tryz.prog 10 #[.pointer (some ⟨b, 0, none⟩), .string ⟨#[73, 70]⟩, .slice A 2 c, .int .i64 8] w fun e w' => e = .returned (.agg #[.int .i64 1, .int .i64 10000, .string ⟨#[]⟩, .bool false, .int .i64 0]) ∧ Below w.heap.size w w' := by
  have h1 := call_plain b 74 (fun _ _ => rfl) 8 ⟨#[73, 70]⟩ 2 3 rfl [truthG true, oneV] A 2 c _ w h hr (by decide) (choiceG [truthG true, oneV]) (fun w' g c' _ hH _ _ => funcs_choice2 _ _ g c' w' hH)
  have e : callS ⟨#[73, 70]⟩ [truthG true, oneV] (choiceG [truthG true, oneV]) = oneV := by decide +kernel
  rw [e] at h1
  exact h1

end Go.Proofs.YtpcihefhagipmaaGreatDoor
