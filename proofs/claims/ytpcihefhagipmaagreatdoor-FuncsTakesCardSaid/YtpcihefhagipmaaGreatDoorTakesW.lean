/-
  The walk of the law FuncsTakes: it returns true, whatever the name and the list.
-/
import Derived.Test.YtpcihefhagipmaaGreatDoorKnownL
import Derived.Test.YtpcihefhagipmaaGreatDoorTakesL
namespace Go.Proofs.YtpcihefhagipmaaGreatDoor
open Go Go.RowKit

theorem Turn.below {b B : Nat} {w w' : World} (h : Turn b w w') (hb : B ≤ b) (hB : B ≤ w.heap.size) : Below B w w' := ⟨h.1, h.2.1, h.2.2.1, h.2.2.2.1, fun k hk => h.2.2.2.2 k (by omega) (by omega)⟩

set_option maxRecDepth 100000 in
set_option maxHeartbeats 2000000 in
theorem funcsTakes (s : ByteArray) (A : Option Addr) (n c : Nat) (xs : List Bool) (w : World) (hr : Reads w w.heap.size 1 A n (xs.map Value.bool)) (hm : n ≤ 9223372036854775807) :
    Calls Tryz.prog 4 #[.string s, .slice A n c] w fun e w' => e = .returned (.bool true) ∧ Below w.heap.size w w' := by
  have hlen : xs.length = n := by have := hr.1; simpa using this
  obtain ⟨q, hq⟩ : ∃ q, q = takesAll s xs := ⟨_, rfl⟩
  obtain ⟨kn, hkn⟩ : ∃ kn, kn = D1 50 s := ⟨_, rfl⟩
  have hq' := Lib.hid (show tabRef s n xs = q by rw [hq, takes_law s n xs hlen])
  have hk' := Lib.hid (show _ = kn from (hkn.trans (known_law s)).symm)
  have HQ := Lib.hid hq
  have HK := Lib.hid hkn
  clear hq hkn
  have HR := Lib.hid hr
  have ha : Apart w.heap.size A n := fun hn p hp => by
    obtain ⟨bk, off, e1, hlt, _⟩ := hr.2 hn
    rw [e1] at hp
    cases hp
    exact Nat.ne_of_lt hlt
  clear hr
  go_enter Tryz.func4, Tryz.ntmps4
  go_wp2_with (first | (go_at_call 6; refine (table_New _).mono ?_; rintro e w1 ⟨rfl, hF, hb⟩; have hs1 := hb.size) | (go_at_call 13; refine (table_Takes w.heap.size s A n c xs _ w.heap.size (TabOK.below (.inr hF) (by repeat (first | with_reducible exact Below.refl _ _ | with_reducible assumption | with_reducible refine below_more' ?_ (by go_size) | with_reducible refine bel_alloc ?_ _ (by go_size) | with_reducible refine Below.drew ?_ | with_reducible refine Below.setCell ?_ (by go_size) _ | with_reducible refine below_drewN ?_ _))) (HR.out.keeps (Keeps.trans (keeps_below hb) (by repeat (first | with_reducible exact keeps_refl _ | with_reducible assumption | with_reducible refine keeps_alloc ?_ _ | with_reducible refine keeps_more ?_ _ _ | with_reducible refine keeps_drew ?_ | with_reducible refine keeps_drewN ?_ _)))) ha hm).mono ?_; rintro e w2 ⟨rfl, hR2, hT2⟩))
  have hb2 : Below w.heap.size w w2 := (hb.trans ((Below.refl _ _).alloc hs1 _)).trans (hT2.below (Nat.le_refl _) (by simp; omega))
  have HR2 := Lib.hid (HR.out.below hb2)
  have hs2 := hb2.size
  rw [← HQ.out]
  clear hF hb hs1 hT2
  go_region_held3 (fun w' => Below w2.heap.size w2 w') (first | (exact (by repeat (first | with_reducible exact Below.refl _ _ | with_reducible assumption | with_reducible refine below_more' ?_ (by go_size) | with_reducible refine bel_alloc ?_ _ (by go_size) | with_reducible refine Below.drew ?_ | with_reducible refine Below.setCell ?_ (by go_size) _ | with_reducible refine below_drewN ?_ _))))
    (first | (go_at_call 14; refine (ref11_Takes s A n c xs _ w.heap.size ?_ hm).mono ?_; (exact HR2.out.keeps (keeps_below (by repeat (first | with_reducible exact Below.refl _ _ | with_reducible assumption | with_reducible refine below_more' ?_ (by go_size) | with_reducible refine bel_alloc ?_ _ (by go_size) | with_reducible refine Below.drew ?_ | with_reducible refine Below.setCell ?_ (by go_size) _ | with_reducible refine below_drewN ?_ _)))); rintro e w3 ⟨he, hb⟩; rw [hq'.out] at he; subst he; obtain ⟨l, u, rfl⟩ := more_of_below hb; clear hb) | (go_at_call 15; refine (table_KnownR w.heap.size s _ ?_).mono ?_; (exact hR2.below (by repeat (first | with_reducible exact Below.refl _ _ | with_reducible assumption | with_reducible refine below_more' ?_ (by go_size) | with_reducible refine bel_alloc ?_ _ (by go_size) | with_reducible refine Below.drew ?_ | with_reducible refine Below.setCell ?_ (by go_size) _ | with_reducible refine below_drewN ?_ _))); rintro e w3 ⟨he, hb⟩; rw [← HK.out] at he; subst he; obtain ⟨l, u, rfl⟩ := more_of_below hb; clear hb) | (go_at_call 16; refine (ref11_Known s _).mono ?_; rintro e w3 ⟨he, hb⟩; rw [hk'.out] at he; subst he; obtain ⟨l, u, rfl⟩ := more_of_below hb; clear hb) | (go_at_call 7; refine (law_known w.heap.size _ ?_).mono ?_; (exact hR2.below (by repeat (first | with_reducible exact Below.refl _ _ | with_reducible assumption | with_reducible refine below_more' ?_ (by go_size) | with_reducible refine bel_alloc ?_ _ (by go_size) | with_reducible refine Below.drew ?_ | with_reducible refine Below.setCell ?_ (by go_size) _ | with_reducible refine below_drewN ?_ _))); rintro e w3 ⟨rfl, hb⟩; obtain ⟨l, u, rfl⟩ := more_of_below hb; clear hb))
  all_goals go_wp2
  all_goals go_ret
  all_goals exact ⟨rfl, (by repeat (first | with_reducible exact Below.refl _ _ | with_reducible assumption | with_reducible refine below_more' ?_ (by go_size) | with_reducible refine bel_alloc ?_ _ (by go_size) | with_reducible refine Below.drew ?_ | with_reducible refine Below.setCell ?_ (by go_size) _ | with_reducible refine below_drewN ?_ _))⟩
end Go.Proofs.YtpcihefhagipmaaGreatDoor
