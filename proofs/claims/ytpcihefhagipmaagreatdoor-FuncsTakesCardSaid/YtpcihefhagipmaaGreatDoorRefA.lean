/-
  The document's answers: Takes of layer 10.
-/
import Derived.Test.YtpcihefhagipmaaGreatDoorRefU
import Derived.Test.YtpcihefhagipmaaGreatDoorTakesA
namespace Go.Proofs.YtpcihefhagipmaaGreatDoor
open Go Go.RowKit

theorem aggTab_kinds {s c : ByteArray} {x y : Int} (h : aggTab s = some (c, x, y)) : c.data.toList.all (fun b => b == 114 || b == 118 || b == 120) = true := by
  unfold aggTab at h
  iterate 18
    rcases ite_some h with e | h
    · cases e; decide
  cases h
theorem kind_cases {s c : ByteArray} {x y : Int} (h : aggTab s = some (c, x, y)) (k : Nat) : kindAt c k = 114 ∨ kindAt c k = 118 ∨ kindAt c k = 120 := by
  obtain ⟨_, h2, _⟩ := aggTab_fit h
  have ha := aggTab_kinds h
  rw [List.all_eq_true] at ha
  unfold kindAt
  have hs : min k (c.size - 1) < c.data.toList.length := by
    have : c.data.toList.length = c.size := by simp
    omega
  have := ha _ (List.getElem_mem hs)
  rw [List.getD, List.getElem?_eq_getElem hs, Option.getD_some]
  simp only [Bool.or_eq_true, beq_iff_eq] at this
  rcases this with (e | e) | e <;> rw [e] <;> simp

set_option maxHeartbeats 1000000 in
theorem ref10_loop (c : ByteArray) (x y : Int) (s : ByteArray) (A : Option Addr) (n cp : Nat) (xs : List Bool) (w : World) (B : Nat) (hr : Reads w B 1 A n (xs.map Value.bool)) (hm : n ≤ 9223372036854775807)
    (h : aggTab s = some (c, x, y)) (hx : x ≤ n) (hy : n ≤ y) (h0 : 0 < n) (hcs : 0 < c.size) (hcm : c.size ≤ 3) :
    Calls Tryz.prog 28 #[.string s, .slice A n cp] w fun e w' => e = .returned (.bool (kindsOk c xs n)) ∧ w' = w := by
  have hlen : xs.length = n := by have := hr.1; simpa using this
  obtain ⟨b, off, rfl, _, hc⟩ := hr.2 h0
  have hcell : ∀ k, k < n → w.cell? ⟨b, off + k, none⟩ = some (.bool (xs.getD k false)) := fun k hk => hc k _ (by simp [List.getD, List.getElem?_eq_getElem (show k < xs.length by omega)])
  have hbw : b < w.heap.size := World.block_lt_of_cell? w _ (hcell 0 h0)
  have HC := Lib.hid hcell
  have HL := Lib.hid hlen
  have HKC := Lib.hid (kind_cases h)
  have hW : ∀ w : World, Calls Tryz.prog 42 #[.string s] w fun e w' => e = .returned (.tuple #[.string c, .int .i64 x, .int .i64 y]) ∧ w' = w := fun w => by
    have := ref10_Wants s w
    unfold want10 at this
    rw [h] at this
    exact this
  have HW := Lib.hid hW
  clear hc hr hcell hlen hW h
  go_enter Tryz.func28, Tryz.ntmps28
  go_wp2_with (first | (go_at_call 42; refine (HW.out _).mono ?_; rintro e w1 ⟨rfl, rfl⟩))
  go_loop [8] (fun t => ∃ k : Nat, k ≤ n ∧ t = .int .i64 k ∧ kindsOk c xs k = true) (fun t => n - (intOf t).toNat)
  case atStart => exact ⟨0, Nat.zero_le _, rfl, rfl⟩
  case round =>
    obtain ⟨k, hk, rfl, hno⟩ := hrel
    have HK := Lib.hid hno
    clear hno
    by_cases hlt : k < n
    · have hcell := HC.out k hlt
      have hkc := HKC.out k
      obtain ⟨v, hv⟩ : ∃ v, v = xs.getD k false := ⟨_, rfl⟩
      rw [← hv] at hcell
      have HV := Lib.hid hv
      clear hv
      obtain ⟨q, hq⟩ : ∃ q : Int, q = kindAt c k := ⟨_, rfl⟩
      have hqc : q = 114 ∨ q = 118 ∨ q = 120 := by omega
      have hval := Lib.hid (kind_val (c := c) (xs := xs) (k := k) hq HV.out)
      have hbad := Lib.hid (fun (h1 : ¬ q = 120) (h2 : (!v == (q == 114)) = true) => kind_bad (n := n) hq HV.out hlt h1 h2)
      clear hkc
      have hix : ∀ w : World, (Instr.index 9 (.string c) (.int .i64 (min (k : Int) ((c.size : Int) - 1)))).run Tryz.prog w = .ok (.int .u8 q) w := fun w => by
        rw [idx_string c _ (by omega) (by omega) w, hq]
        unfold kindAt
        rw [show (min (k : Int) ((c.size : Int) - 1)).toNat = min k (c.size - 1) by omega]
      clear hq
      rcases hqc with rfl | rfl | rfl <;> cases v
      all_goals
        go_wp2
        first
        | (go_ret; exact ⟨by rw [hbad.out (by decide) (by decide)]; rfl, rfl⟩)
        | (go_round
           case rel => exact ⟨k + 1, by omega, by go_num, kind_step HK.out (by rw [hval.out]; rfl)⟩
           case measure => simp [intOf]; omega)
    · have hd : k = n := by omega
      subst hd
      go_wp2
      go_ret
      exact ⟨by rw [HK.out]; rfl, rfl⟩

theorem ref10_Takes (s : ByteArray) (A : Option Addr) (n cp : Nat) (xs : List Bool) (w : World) (B : Nat) (hr : Reads w B 1 A n (xs.map Value.bool)) (hm : n ≤ 9223372036854775807) :
    Calls Tryz.prog 28 #[.string s, .slice A n cp] w fun e w' => e = .returned (.bool (takesAgg s xs)) ∧ w' = w := by
  have hlen : xs.length = n := by have := hr.1; simpa using this
  have hW := fun w => ref10_Wants s w
  cases h : aggTab s with
  | none =>
    have e : takesAgg s xs = false := by simp [takesAgg, h]
    rw [e]
    have e2 : want10 s = (⟨#[]⟩, 0, -1) := by simp [want10, h]
    rw [e2] at hW
    have HW := Lib.hid hW
    have hd : decide ((n : Int) < 0) = false := by simp
    have hd2 : decide ((-1 : Int) < n) = true := by simp; omega
    clear hr hlen hW e e2 h
    go_enter Tryz.func28, Tryz.ntmps28
    go_wp2_with (first | (go_at_call 42; refine (HW.out _).mono ?_; rintro e w1 ⟨rfl, rfl⟩))
    go_ret
    exact ⟨rfl, rfl⟩
  | some q =>
    obtain ⟨c, x, y⟩ := q
    obtain ⟨f1, f2, f3⟩ := aggTab_fit h
    have e : takesAgg s xs = ((decide (x ≤ n) && decide (n ≤ y)) && kindsOk c xs n) := by simp [takesAgg, h, hlen]
    rw [e]
    clear hlen e
    by_cases hx : x ≤ n
    · by_cases hy : n ≤ y
      · have e : ((decide (x ≤ n) && decide (n ≤ y)) && kindsOk c xs n) = kindsOk c xs n := by simp [hx, hy]
        rw [e]
        exact ref10_loop c x y s A n cp xs w B hr hm h hx hy (by omega) f2 f3
      · have e : ((decide (x ≤ n) && decide (n ≤ y)) && kindsOk c xs n) = false := by simp [hy]
        rw [e]
        have hd1 : decide ((n : Int) < x) = false := by simpa using hx
        have hd2 : decide (y < n) = true := by simpa using hy
        have e2 : want10 s = (c, x, y) := by simp [want10, h]
        rw [e2] at hW
        have HW := Lib.hid hW
        clear e hr hx hy hW e2 h
        go_enter Tryz.func28, Tryz.ntmps28
        go_wp2_with (first | (go_at_call 42; refine (HW.out _).mono ?_; rintro e w1 ⟨rfl, rfl⟩))
        go_ret
        exact ⟨rfl, rfl⟩
    · have e : ((decide (x ≤ n) && decide (n ≤ y)) && kindsOk c xs n) = false := by simp [hx]
      rw [e]
      have hd1 : decide ((n : Int) < x) = true := by simpa using hx
      have e2 : want10 s = (c, x, y) := by simp [want10, h]
      rw [e2] at hW
      have HW := Lib.hid hW
      clear e hr hx hW e2 h
      go_enter Tryz.func28, Tryz.ntmps28
      go_wp2_with (first | (go_at_call 42; refine (HW.out _).mono ?_; rintro e w1 ⟨rfl, rfl⟩))
      go_ret
      exact ⟨rfl, rfl⟩
end Go.Proofs.YtpcihefhagipmaaGreatDoor
