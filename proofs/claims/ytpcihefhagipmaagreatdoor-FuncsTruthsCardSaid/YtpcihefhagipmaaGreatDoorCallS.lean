/-
  The table's Call at the names of layer 11, of single arguments: what it answers at each kind of function.
-/
import Derived.Test.YtpcihefhagipmaaGreatDoorKnown
import Derived.Test.YtpcihefhagipmaaGreatDoorTruthF
namespace Go.Proofs.YtpcihefhagipmaaGreatDoor
open Go Go.RowKit

set_option maxRecDepth 100000 in
theorem call_truths (b k : Nat) (fy : Nat → Nat → Bool) (hk : ∀ (args : Array Value) (w : World), Sem.run Tryz.prog (callFunc k args) w = .ok (.enter k args) w)
    (hf : ∀ (a b : Nat) (w : World), a ≤ b → b ≤ 1000000000000 → Calls Tryz.prog k #[.int .i64 a, .int .i64 b] w fun e w' => e = .returned (.bool (fy a b)) ∧ w = w')
    (tx : Int) (s : ByteArray) (x y : Int) (ho : ownTab s = some (x, y, .truths k)) (vs : List V) (A : Option Addr) (n c B : Nat) (w : World) (h : Ready w b)
    (hr : Reads w B 11 A n (argFlat (vs.map single))) (hm : n ≤ 1000000000000) :
    Calls Tryz.prog 10 #[.pointer (some ⟨b, 0, none⟩), .string s, .slice A n c, .int .i64 tx] w fun e w' => e = .returned (Value.agg #[Value.int .i64 (callS s vs (truthsG fy vs)).tag, Value.int .i64 (callS s vs (truthsG fy vs)).num, Value.string (callS s vs (truthsG fy vs)).str, Value.bool (callS s vs (truthsG fy vs)).is, Value.int .i64 (callS s vs (truthsG fy vs)).code]) ∧ Below w.heap.size w w' := by
  have hlen : vs.length = n := by
    have := hr.1
    rw [argFlat_length, List.length_map] at this
    omega
  rw [← callG_single]
  refine table_CallOwn b tx s x y (.truths k) ho (fun a => mayG a.val) (vs.map single) A n c B w h hr hm (fun a ha w' _ => ?_) _ (fun w' pd f hb hc hD hbt hall => ?_)
  · obtain ⟨v, _, rfl⟩ := List.mem_map.1 ha
    exact may_single v w'
  · have hx := ownTab_low ho
    have h0 : 0 < n := by
      simp only [between, Bool.and_eq_true, decide_eq_true_eq] at hbt
      omega
    obtain ⟨p, hf1, hp⟩ := hD
    subst hf1
    refine gather1 pd 117 p (fun _ _ => rfl) tx (vs.map single) A n c B w' hc (hr.keeps (keeps_below hb)) hm h0 _ fun w'' g c' hb' hH => ?_
    rw [vals_single] at hH
    exact funcs_truthsV k fy hk hf vs p g n c' w'' hlen hm h0 ((keeps_below hb').cell _ _ _ hp) hH
set_option maxRecDepth 100000 in
theorem call_tagged (b : Nat) (t : Int) (tx : Int) (s : ByteArray) (ho : ownTab s = some (1, 1, .tagged t)) (v : V) (A : Option Addr) (c B : Nat) (w : World) (h : Ready w b)
    (hr : Reads w B 11 A 1 (argFlat ([v].map single))) :
    Calls Tryz.prog 10 #[.pointer (some ⟨b, 0, none⟩), .string s, .slice A 1 c, .int .i64 tx] w fun e w' => e = .returned (Value.agg #[Value.int .i64 (callS s [v] (truthG (v.tag == t))).tag, Value.int .i64 (callS s [v] (truthG (v.tag == t))).num, Value.string (callS s [v] (truthG (v.tag == t))).str, Value.bool (callS s [v] (truthG (v.tag == t))).is, Value.int .i64 (callS s [v] (truthG (v.tag == t))).code]) ∧ Below w.heap.size w w' := by
  rw [← callG_single]
  refine table_CallOwn b tx s 1 1 (.tagged t) ho (fun a => mayG a.val) ([v].map single) A 1 c B w h hr (by decide) (fun a ha w' _ => ?_) _ (fun w' pd f hb hc hD hbt hall => ?_)
  · obtain ⟨v, _, rfl⟩ := List.mem_map.1 ha
    exact may_single v w'
  · obtain ⟨p, hf1, hp, _⟩ := hD
    subst hf1
    refine gather1 pd 120 p (fun _ _ => rfl) tx ([v].map single) A 1 c B w' hc (hr.keeps (keeps_below hb)) (by decide) (by decide) _ fun w'' g c' hb' hH => ?_
    rw [vals_single] at hH
    exact funcs_is1 t v p g c' w'' ((keeps_below hb').cell _ _ _ hp) hH
end Go.Proofs.YtpcihefhagipmaaGreatDoor
