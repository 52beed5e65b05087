/-
  The table's Takes, and New.
-/
import Derived.Test.YtpcihefhagipmaaGreatDoorTabT
namespace Go.Proofs.YtpcihefhagipmaaGreatDoor
open Go Go.RowKit

def Apart (b : Nat) (A : Option Addr) (n : Nat) : Prop := 0 < n → ∀ p, A = some p → p.block ≠ b
theorem Reads.turn {w w' : World} {b B size n : Nat} {A : Option Addr} {xs : List Value} (h : Reads w B size A n xs) (ha : Apart b A n) (ht : Turn b w w') : Reads w' B size A n xs :=
  ⟨h.1, fun hn => by
    obtain ⟨k, off, e, hb, hc⟩ := h.2 hn
    exact ⟨k, off, e, hb, fun j u hu => ht.cell (ha hn _ e) (hc j u hu)⟩⟩

set_option maxRecDepth 100000 in
theorem table_Takes (b : Nat) (s : ByteArray) (A : Option Addr) (n c : Nat) (xs : List Bool) (w : World) (B : Nat) (h : TabOK w b) (hr : Reads w B 1 A n (xs.map Value.bool)) (ha : Apart b A n) (hm : n ≤ 9223372036854775807) :
    Calls Tryz.prog 13 #[.pointer (some ⟨b, 0, none⟩), .string s, .slice A n c] w fun e w' => e = .returned (.bool (takesAll s xs)) ∧ Ready w' b ∧ Turn b w w' := by
  go_enter Tryz.func13, Tryz.ntmps13
  go_wp2_with (first | (go_at_call 20; refine (table_all b _ h).mono ?_; rintro e w1 ⟨⟨m, rfl, hM⟩, hR, hT⟩) | (at_lookup; refine wpList_lookI hM _ _ rfl rfl rfl _ rfl ?_ ?_))
  · intro fn first cap fn1 first1 cap1 hv
    obtain ⟨k, pa, pb, hk, rfl, rfl, rfl, hcall⟩ := ent_takes hv.out.1 A n c xs B (hr.turn ha hT) hm
    clear hv
    rcases hk with rfl | rfl
    · go_wp2_with (first | (go_at_call 113; refine (hcall _ (by repeat (first | with_reducible exact Below.refl _ _ | with_reducible assumption | with_reducible refine below_more' ?_ (by go_size) | with_reducible refine bel_alloc ?_ _ (by go_size) | with_reducible refine Below.drew ?_ | with_reducible refine Below.setCell ?_ (by go_size) _ | with_reducible refine below_drewN ?_ _))).mono ?_; rintro e w2 ⟨rfl, hb⟩; obtain ⟨l, q, rfl⟩ := more_of_below hb; clear hb))
      go_ret
      exact ⟨rfl, hR.below (by repeat (first | with_reducible exact Below.refl _ _ | with_reducible assumption | with_reducible refine below_more' ?_ (by go_size) | with_reducible refine bel_alloc ?_ _ (by go_size) | with_reducible refine Below.drew ?_ | with_reducible refine Below.setCell ?_ (by go_size) _ | with_reducible refine below_drewN ?_ _)), hT.trans (.of_below (by repeat (first | with_reducible exact Below.refl _ _ | with_reducible assumption | with_reducible refine below_more' ?_ (by go_size) | with_reducible refine bel_alloc ?_ _ (by go_size) | with_reducible refine Below.drew ?_ | with_reducible refine Below.setCell ?_ (by go_size) _ | with_reducible refine below_drewN ?_ _)))⟩
    · go_wp2_with (first | (go_at_call 58; refine (hcall _ (by repeat (first | with_reducible exact Below.refl _ _ | with_reducible assumption | with_reducible refine below_more' ?_ (by go_size) | with_reducible refine bel_alloc ?_ _ (by go_size) | with_reducible refine Below.drew ?_ | with_reducible refine Below.setCell ?_ (by go_size) _ | with_reducible refine below_drewN ?_ _))).mono ?_; rintro e w2 ⟨rfl, hb⟩; obtain ⟨l, q, rfl⟩ := more_of_below hb; clear hb))
      go_ret
      exact ⟨rfl, hR.below (by repeat (first | with_reducible exact Below.refl _ _ | with_reducible assumption | with_reducible refine below_more' ?_ (by go_size) | with_reducible refine bel_alloc ?_ _ (by go_size) | with_reducible refine Below.drew ?_ | with_reducible refine Below.setCell ?_ (by go_size) _ | with_reducible refine below_drewN ?_ _)), hT.trans (.of_below (by repeat (first | with_reducible exact Below.refl _ _ | with_reducible assumption | with_reducible refine below_more' ?_ (by go_size) | with_reducible refine bel_alloc ?_ _ (by go_size) | with_reducible refine Below.drew ?_ | with_reducible refine Below.setCell ?_ (by go_size) _ | with_reducible refine below_drewN ?_ _)))⟩
  · intro hv
    go_wp2
    go_ret
    exact ⟨by rw [takes_none hv.out]; rfl, hR.below (by repeat (first | with_reducible exact Below.refl _ _ | with_reducible assumption | with_reducible refine below_more' ?_ (by go_size) | with_reducible refine bel_alloc ?_ _ (by go_size) | with_reducible refine Below.drew ?_ | with_reducible refine Below.setCell ?_ (by go_size) _ | with_reducible refine below_drewN ?_ _)), hT.trans (.of_below (by repeat (first | with_reducible exact Below.refl _ _ | with_reducible assumption | with_reducible refine below_more' ?_ (by go_size) | with_reducible refine bel_alloc ?_ _ (by go_size) | with_reducible refine Below.drew ?_ | with_reducible refine Below.setCell ?_ (by go_size) _ | with_reducible refine below_drewN ?_ _)))⟩

theorem table_New (w : World) : Calls Tryz.prog 6 #[] w fun e w' => e = .returned (.pointer (some ⟨w.heap.size, 0, none⟩)) ∧ Fresh w' w.heap.size ∧ Below w.heap.size w w' := by
  go_enter Tryz.func6, Tryz.ntmps6
  go_wp2
  go_ret
  refine ⟨rfl, ⟨?_, ?_, ?_, fun i => ?_⟩, (by repeat (first | with_reducible exact Below.refl _ _ | with_reducible assumption | with_reducible refine below_more' ?_ (by go_size) | with_reducible refine bel_alloc ?_ _ (by go_size) | with_reducible refine Below.drew ?_ | with_reducible refine Below.setCell ?_ (by go_size) _ | with_reducible refine below_drewN ?_ _))⟩
  all_goals go_simp
end Go.Proofs.YtpcihefhagipmaaGreatDoor
