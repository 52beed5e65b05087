/-
  Parts of a proof: Stk, NumsA, NumsB, NumsC.
-/
import Derived.Test.YtegbhdeaicgpkaaGreatDoorJ02
import Derived.Test.YtegbhdeaicgpkaaGreatDoorJ01
import Derived.WalkKit
import Derived.WalkSmall
import Derived.Laws.OwnMore
import Derived.Deep.DeepCutAuto
import Derived.Test.YtegbhdeaicgpkaaGreatDoorJ15
import Derived.BigQuiet
import Derived.Deep.RegionHeld3
import Derived.Laws.BitsLemmas
set_option linter.all false
namespace Go.Proofs.YtegbhdeaicgpkaaGreatDoor
open Go Go.RowKit
theorem stk_below {w w1 : World} {base e size n : Nat} {v : Value} {xs : List Value} (h : w.ownsRow base e size v n xs) (hb : Below w.heap.size w w1) : w1.ownsRow base e size v n xs := by
  refine ⟨h.1, ?_⟩
  rcases h.2 with h2 | ⟨g, cap, cur, e1, hg, hh, rest⟩
  · exact .inl h2
  · exact .inr ⟨g, cap, cur, e1, hg, (hb.block g (Array.getElem?_eq_some_iff.1 hh).1).trans hh, rest⟩
theorem stk_form {w : World} {base e size n : Nat} {v : Value} {xs : List Value} (h : w.ownsRow base e size v n xs) (hn : 0 < n) : ∃ g c, v = .slice (some ⟨g, 0, none⟩) n c ∧ n ≤ c ∧ c ≤ maxLen ∧ base ≤ g ∧ g < w.heap.size ∧ (∀ j u, xs[j]? = some u → w.cell? ⟨g, j, none⟩ = some u) ∧ ∀ j, w.frozen? ⟨g, j, none⟩ = false := by
  rcases h.2 with ⟨_, h2⟩ | ⟨g, cap, cur, e1, hg, hh, h1, h2, h3, h4⟩
  · omega
  · subst e1
    refine ⟨g, cap, rfl, h1, h2, hg, (Array.getElem?_eq_some_iff.1 hh).1, fun j u hu => ?_, fun j => h.frozenAt j⟩
    have hj : j < xs.length := (List.getElem?_eq_some_iff.1 hu).1
    rw [h.cellAt j (by rw [← h.1]; exact hj), hu]
theorem stk_take1 {α : Type} {xs : List α} {k : Nat} {a : α} (h : xs[k]? = some a) : xs.take (k + 1) = xs.take k ++ [a] := by
  rw [List.take_add_one, h]
  rfl
theorem stk_fresh {w : World} {cs : Array Value} {t : TypeId} {b : Nat} (hb : b = w.heap.size) : ∀ j u, cs.toList[j]? = some u → (w.alloc (.cells cs t)).cell? ((⟨b, 0, none⟩ : Addr).add j) = some u := by
  subst hb
  intro j u hu
  have e : (⟨w.heap.size, 0, none⟩ : Addr).add j = ⟨w.heap.size, j, none⟩ := by unfold Addr.add; split <;> simp_all
  rw [e, cell_of_row (w.alloc (.cells cs t)) w.heap.size j cs t (0, 0) (heap_alloc_new w _)]
  simpa using hu
def StkRel (w wr : World) (e : TypeId) (size : Nat) (v : Value) (k : Nat) (xs : List Value) : Prop := Below w.heap.size w wr ∧ wr.ownsRow w.heap.size e size v k xs
theorem StkRel.step {w wr w2 w3 : World} {e : TypeId} {size : Nat} {v v' : Value} {k k' : Nat} {xs ys : List Value} (h : StkRel w wr e size v k xs) (hb : Below wr.heap.size wr w2)
    (ho : w3.ownsRow w.heap.size e size v' k' ys) (hg : w2.grownBy w3 v.ownBlock) : StkRel w w3 e size v' k' ys := by
  obtain ⟨h1, h3⟩ := h
  have hrow : ∀ k, v.ownBlock = some k → w.heap.size ≤ k := fun k hk => (h3.lt k hk).1
  have s1 := h1.size
  have s2 := hb.size
  exact ⟨(h1.trans (hb.mono (by omega))).grown hg (by omega) hrow, ho⟩
theorem StkRel.below {w wr w2 : World} {e : TypeId} {size : Nat} {v : Value} {k : Nat} {xs : List Value} (h : StkRel w wr e size v k xs) (hb : Below wr.heap.size wr w2) : StkRel w w2 e size v k xs :=
  ⟨h.1.trans (hb.mono h.1.size), stk_below h.2 hb⟩
theorem StkRel.pop {w wr : World} {e : TypeId} {size g cap n : Nat} {xs last : List Value} (hx : xs.length = n * size) (h : StkRel w wr e size (.slice (some ⟨g, 0, none⟩) (n + 1) cap) (n + 1) (xs ++ last)) : StkRel w wr e size (.slice (some ⟨g, 0, none⟩) n cap) n xs :=
  ⟨h.1, ownsRow_pop hx h.2⟩
def flatC {α : Type} (f : α → List Value) (l : List α) : List Value := l.flatMap f
theorem flatC_append {α : Type} (f : α → List Value) (a b : List α) : flatC f (a ++ b) = flatC f a ++ flatC f b := by simp [flatC]
theorem flatC_length {α : Type} (f : α → List Value) (size : Nat) (hf : ∀ x, (f x).length = size) (l : List α) : (flatC f l).length = l.length * size := by
  induction l with
  | nil => simp [flatC]
  | cons a l ih =>
    have : flatC f (a :: l) = f a ++ flatC f l := by simp [flatC]
    rw [this, List.length_append, hf, ih, List.length_cons, Nat.add_mul]
    omega
theorem flatC_at {α : Type} (f : α → List Value) (size : Nat) (hf : ∀ x, (f x).length = size) (l : List α) (j : Nat) (x : α) (hx : l[j]? = some x) (i : Nat) (u : Value) (hu : (f x)[i]? = some u) : (flatC f l)[j * size + i]? = some u := by
  induction l generalizing j with
  | nil => simp at hx
  | cons a l ih =>
    have e : flatC f (a :: l) = f a ++ flatC f l := by simp [flatC]
    rw [e]
    cases j with
    | zero =>
      simp only [List.getElem?_cons_zero, Option.some.injEq] at hx
      subst hx
      have hi : i < (f a).length := (List.getElem?_eq_some_iff.1 hu).1
      rw [Nat.zero_mul, Nat.zero_add, List.getElem?_append_left hi]
      exact hu
    | succ j =>
      simp only [List.getElem?_cons_succ] at hx
      have h1 := ih j hx
      have h2 : (j + 1) * size + i = (f a).length + (j * size + i) := by rw [hf, Nat.add_mul]; omega
      rw [h2, List.getElem?_append_right (by omega), Nat.add_sub_cancel_left]
      exact h1
theorem stk_pop2 {α : Type} (f : α → List Value) {size : Nat} (hf : ∀ x, (f x).length = size) {w : World} {base g cap : Nat} {e : TypeId} (pre : List α) (a b : α)
    (h : w.ownsRow base e size (.slice (some ⟨g, 0, none⟩) (pre.length + 2) cap) (pre.length + 2) (flatC f (pre ++ [a, b]))) : w.ownsRow base e size (.slice (some ⟨g, 0, none⟩) pre.length cap) pre.length (flatC f pre) := by
  have e1 : flatC f (pre ++ [a, b]) = flatC f (pre ++ [a]) ++ flatC f [b] := by rw [← flatC_append]; simp
  rw [e1] at h
  have h1 := ownsRow_pop (n := pre.length + 1) (by rw [flatC_length f size hf]; simp) h
  rw [flatC_append] at h1
  exact ownsRow_pop (by rw [flatC_length f size hf]) h1
def AtB (w : World) (p : Nat) (l : List Value) : Prop := ∀ j u, l[j]? = some u → w.cell? ⟨p, j, none⟩ = some u
theorem AtB.below {w w' : World} {p : Nat} {l : List Value} (h : AtB w p l) (hb : Below w.heap.size w w') : AtB w' p l := fun j u hu => by
  have h1 := h j u hu
  have h2 : p < w.heap.size := World.block_lt_of_cell? w _ h1
  exact (hb.cell (p := ⟨p, j, none⟩) (by simpa using h2)).trans h1
theorem cell_below {w w' : World} {p j : Nat} {u : Value} (h : w.cell? ⟨p, j, none⟩ = some u) (hb : Below w.heap.size w w') : w'.cell? ⟨p, j, none⟩ = some u :=
  (hb.cell (p := ⟨p, j, none⟩) (by simpa using World.block_lt_of_cell? w _ h)).trans h
theorem AtB.new {w : World} {cs : Array Value} {t : TypeId} {p : Nat} (hp : p = w.heap.size) : AtB (w.alloc (.cells cs t)) p cs.toList := by
  subst hp
  intro j u hu
  rw [cell_of_row (w.alloc (.cells cs t)) w.heap.size j cs t (0, 0) (heap_alloc_new w _)]
  simpa using hu
theorem AtB.allocI {w : World} {p : Nat} {l : List Value} (h : AtB w p l) (o : Obj) : AtB (w.alloc o) p l := fun j u hu => (World.cell?_alloc_lt w _ _ (World.block_lt_of_cell? w _ (h j u hu))).trans (h j u hu)
theorem cell_ltJ {w : World} {b i : Nat} {v : Value} (h : w.cell? ⟨b, i, none⟩ = some v) : b < w.heap.size := World.block_lt_of_cell? w _ h
theorem cell_allocJ {w : World} {p i : Nat} {v : Value} (h : w.cell? ⟨p, i, none⟩ = some v) (o : Obj) : (w.alloc o).cell? ⟨p, i, none⟩ = some v := (World.cell?_alloc_lt w _ _ (World.block_lt_of_cell? w _ h)).trans h
theorem cell_moreJ {w : World} {p i : Nat} {v : Value} (h : w.cell? ⟨p, i, none⟩ = some v) (l : List Obj) (n : Nat) : (more w l n).cell? ⟨p, i, none⟩ = some v := (more_cell (World.block_lt_of_cell? w _ h)).trans h
theorem cell_drewJ {w : World} {p i : Nat} {v : Value} (h : w.cell? ⟨p, i, none⟩ = some v) : w.drew.cell? ⟨p, i, none⟩ = some v := h
theorem cell_drewNJ {w : World} {p i : Nat} {v : Value} (h : w.cell? ⟨p, i, none⟩ = some v) (n : Nat) : (w.drewN n).cell? ⟨p, i, none⟩ = some v := h
theorem cell_setJ {w : World} {p i q j : Nat} {v u : Value} (h : w.cell? ⟨p, i, none⟩ = some v) (hn : p ≠ q) : (w.setCell ⟨q, j, none⟩ u).cell? ⟨p, i, none⟩ = some v := (World.cell?_setCell_other _ _ _ _ (by simp [hn])).trans h
end Go.Proofs.YtegbhdeaicgpkaaGreatDoor
namespace Go.Proofs.YtegbhdeaicgpkaaGreatDoor
open Go Go.RowKit
theorem xor_low (a b : Int) (ha : Is64 a) (hb : Is64 b) : (bits BinOp.xor IntKind.i64 a b < 0) = (decide (a < 0) ≠ decide (b < 0)) := by
  unfold Is64 at ha hb
  have key : ∀ x : Int, Is64 x → (BitVec.ofInt 64 x).msb = decide (x < 0) := by
    intro x hx
    unfold Is64 at hx
    rw [BitVec.msb_eq_toInt, BitVec.toInt_ofInt]
    congr 1
    rw [Int.bmod_eq_of_le (by omega) (by omega)]
  have h1 : bits BinOp.xor IntKind.i64 a b = (BitVec.ofInt 64 a ^^^ BitVec.ofInt 64 b).toInt := by
    show IntKind.i64.wrap ((BitVec.ofInt 64 a ^^^ BitVec.ofInt 64 b).toNat : Int) = _
    rw [IntKind.wrap_i64, BitVec.toInt_eq_toNat_cond]
    have := (BitVec.ofInt 64 a ^^^ BitVec.ofInt 64 b).isLt
    split <;> omega
  have h2 : (bits BinOp.xor IntKind.i64 a b < 0) = ((BitVec.ofInt 64 a ^^^ BitVec.ofInt 64 b).msb = true) := by
    rw [h1, BitVec.msb_eq_toInt]
    simp
  rw [h2, BitVec.msb_xor, key a ha, key b hb]
  simp
def modX (a b : Int) : Int × Int := if a = minI ∨ b = minI then (0, 2) else if b = 0 then (0, 3) else (if a.tmod b ≠ 0 ∧ decide (a.tmod b < 0) ≠ decide (b < 0) then a.tmod b + b else a.tmod b, 0)
theorem dec_Mod (a b : Int) (ha : Is64 a) (hb : Is64 b) (w : World) : Calls Tryz.prog 68 #[.int .i64 a, .int .i64 b] w fun e w' => e = .returned (.tuple #[.int .i64 (modX a b).1, .int .i64 (modX a b).2]) ∧ w = w' := by
  unfold Is64 at ha hb
  by_cases h1 : a = minI
  · have e : modX a b = (0, 2) := if_pos (.inl h1)
    have k1 : (a != minI) = false := by simp [h1]
    rw [e]
    clear e h1
    go_enter Tryz.func68, Tryz.ntmps68
    go_wp2_with (first | (go_at_call 102; refine (dec_May _ _).mono ?_; rintro e w1 ⟨rfl, rfl⟩))
    go_returns
    exact ⟨rfl, rfl⟩
  · by_cases h2 : b = minI
    · have e : modX a b = (0, 2) := if_pos (.inr h2)
      have k1 : (a != minI) = true := by simp [h1]
      have k2 : (b != minI) = false := by simp [h2]
      rw [e]
      clear e h1 h2
      go_enter Tryz.func68, Tryz.ntmps68
      go_wp2_with (first | (go_at_call 102; refine (dec_May _ _).mono ?_; rintro e w1 ⟨rfl, rfl⟩))
      go_returns
      exact ⟨rfl, rfl⟩
    · have k1 : (a != minI) = true := by simp [h1]
      have k2 : (b != minI) = true := by simp [h2]
      by_cases h3 : b = 0
      · have e : modX a b = (0, 3) := by unfold modX; rw [if_neg (by simp [h1, h2]), if_pos h3]
        rw [e]
        clear e h1 h2
        go_enter Tryz.func68, Tryz.ntmps68
        go_wp2_with (first | (go_at_call 102; refine (dec_May _ _).mono ?_; rintro e w1 ⟨rfl, rfl⟩))
        go_returns
        exact ⟨rfl, rfl⟩
      · have e : modX a b = (if a.tmod b ≠ 0 ∧ decide (a.tmod b < 0) ≠ decide (b < 0) then a.tmod b + b else a.tmod b, 0) := by unfold modX; rw [if_neg (by simp [h1, h2]), if_neg h3]
        rw [e]
        clear e h1 h2
        have h3' : (b == 0) = false := by simp [h3]
        have hb0 : Is64 b := hb
        have ht : Is64 (a.tmod b) := by
          have h1 := Int.natAbs_tmod a b
          have h4 := Nat.mod_lt a.natAbs (show 0 < b.natAbs by omega)
          unfold Is64
          omega
        have ht2 : -9223372036854775808 ≤ a.tmod b ∧ a.tmod b ≤ 9223372036854775807 := ht
        obtain ⟨t1, t2⟩ := ht2
        have x1 := xor_low _ _ ht hb0
        have x2 : (0 ≤ bits BinOp.xor IntKind.i64 (a.tmod b) b) = (decide (a.tmod b < 0) = decide (b < 0)) := by rw [← Int.not_lt, x1]; simp
        go_enter Tryz.func68, Tryz.ntmps68
        go_wp2_with (first | (go_at_call 102; refine (dec_May _ _).mono ?_; rintro e w1 ⟨rfl, rfl⟩))
        all_goals go_returns
        all_goals try rw [x1] at *
        all_goals try rw [x2] at *
        all_goals simp_all [wrap64]
        all_goals omega
theorem nums_told (x c : Int) (w : World) : Calls Tryz.prog 59 #[.int .i64 x, .int .i64 c] w fun e w' => e = .returned (Value.agg #[Value.int .i64 (numC (x, c)).tag, Value.int .i64 (numC (x, c)).num, Value.string (numC (x, c)).str, Value.bool (numC (x, c)).is, Value.int .i64 (numC (x, c)).code]) ∧ Below w.heap.size w w' := by
  by_cases h : c = 0
  · have e : numC (x, c) = numG x := by simp [numC, h]
    rw [e]
    clear e
    go_enter Tryz.func59, Tryz.ntmps59
    go_wp2_with (first | (go_at_call 56; refine (value_Num _ _).mono ?_; rintro e w1 ⟨rfl, hb⟩; obtain ⟨l, n, rfl⟩ := more_of_below hb; clear hb))
    go_returns
    exact ⟨rfl, (by (with_reducible repeat' (first | exact .refl _ _ | assumption | refine bmP ?_ ?_ | refine baP ?_ _ ?_ | refine .drew ?_ | refine .setCell ?_ ?_ _ | refine bdP ?_ _)) <;> go_size)⟩
  · have e : numC (x, c) = errG c := by simp [numC, h]
    rw [e]
    clear e
    go_enter Tryz.func59, Tryz.ntmps59
    go_wp2_with (first | (go_at_call 27; refine (value_Err _ _).mono ?_; rintro e w1 ⟨rfl, hb⟩; obtain ⟨l, n, rfl⟩ := more_of_below hb; clear hb))
    go_returns
    exact ⟨rfl, (by (with_reducible repeat' (first | exact .refl _ _ | assumption | refine bmP ?_ ?_ | refine baP ?_ _ ?_ | refine .drew ?_ | refine .setCell ?_ ?_ _ | refine bdP ?_ _)) <;> go_size)⟩
end Go.Proofs.YtegbhdeaicgpkaaGreatDoor
namespace Go.Proofs.YtegbhdeaicgpkaaGreatDoor
open Go Go.RowKit
def In63 (x : Int) : Prop := -9223372036854775807 ≤ x ∧ x ≤ 9223372036854775807
theorem In63.to64 {x : Int} (h : In63 x) : Is64 x := ⟨by have := h.1; omega, h.2⟩
theorem addX_64 (a b : Int) : Is64 (addX a b).1 := by
  unfold addX Is64
  split <;> simp <;> omega
theorem subX_64 (a b : Int) : Is64 (subX a b).1 := by
  unfold subX
  split
  · exact ⟨by simp, by simp⟩
  · exact addX_64 _ _
theorem modX_64 (a b : Int) (ha : Is64 a) (hb : Is64 b) : Is64 (modX a b).1 := by
  unfold modX
  split
  · exact ⟨by simp, by simp⟩
  · split
    · exact ⟨by simp, by simp⟩
    · rename_i h3
      have h1 := Int.natAbs_tmod a b
      have h4 := Nat.mod_lt a.natAbs (show 0 < b.natAbs by omega)
      unfold Is64 at *
      dsimp only
      split
      · rename_i h
        have h5 : decide (a.tmod b < 0) ≠ decide (b < 0) := h.2
        simp at h5
        omega
      · omega
def floorX (x : Int) : Int × Int := if (modX x 10000).2 ≠ 0 then (0, (modX x 10000).2) else subX x (modX x 10000).1
theorem dec_Floor (x : Int) (hx : Is64 x) (w : World) : Calls Tryz.prog 60 #[.int .i64 x] w fun e w' => e = .returned (.tuple #[.int .i64 (floorX x).1, .int .i64 (floorX x).2]) ∧ w = w' := by
  have h10 : Is64 10000 := ⟨by decide, by decide⟩
  have HM := Lib.hid (modX_64 x 10000 hx h10)
  have HX := Lib.hid hx
  by_cases h : (modX x 10000).2 = 0
  · have e : floorX x = subX x (modX x 10000).1 := if_neg (fun h' => h' h)
    rw [e]
    have k1 : ((modX x 10000).2 != 0) = false := by simp [h]
    clear e hx
    go_enter Tryz.func60, Tryz.ntmps60
    go_wp2_with (first | (go_at_call 68; refine (dec_Mod _ _ HX.out h10 _).mono ?_; rintro e w1 ⟨rfl, rfl⟩) | (go_at_call 149; refine (dec_Sub _ _ HX.out HM.out _).mono ?_; rintro e w1 ⟨rfl, rfl⟩))
    go_returns
    exact ⟨rfl, rfl⟩
  · have e : floorX x = (0, (modX x 10000).2) := if_pos h
    rw [e]
    have k1 : ((modX x 10000).2 != 0) = true := by simp [h]
    clear e hx
    go_enter Tryz.func60, Tryz.ntmps60
    go_wp2_with (first | (go_at_call 68; refine (dec_Mod _ _ HX.out h10 _).mono ?_; rintro e w1 ⟨rfl, rfl⟩))
    go_returns
    exact ⟨rfl, rfl⟩
theorem nums_abs (x : Int) (hx : In63 x) (g c : Nat) (w : World) (h0 : w.cell? ⟨g, 0, none⟩ = some (.int .i64 x)) : Calls Tryz.prog 55 #[.slice (some ⟨g, 0, none⟩) 1 c] w fun e w' => e = .returned (Value.agg #[Value.int .i64 (numG (max x (-x))).tag, Value.int .i64 (numG (max x (-x))).num, Value.string (numG (max x (-x))).str, Value.bool (numG (max x (-x))).is, Value.int .i64 (numG (max x (-x))).code]) ∧ Below w.heap.size w w' := by
  have hl : g < w.heap.size := World.block_lt_of_cell? w _ h0
  have hw : IntKind.i64.wrap (-x) = -x := by unfold In63 at hx; rw [IntKind.wrap_i64]; omega
  have hm : (if x < -x then -x else x) = max x (-x) := by split <;> omega
  go_enter Tryz.func55, Tryz.ntmps55
  go_wp2_with fail
  go_region_held3 (fun w' => w'.cell? ⟨g, 0, none⟩ = some (.int .i64 x))
    (first | (go_keep; done) | (repeat (first | assumption | with_reducible refine cell_moreJ ?_ _ _ | with_reducible refine cell_allocJ ?_ _ | with_reducible refine cell_drewJ ?_)))
    (first | (go_at_call 56; refine (value_Num _ _).mono ?_; rintro e w1 ⟨rfl, hb⟩; obtain ⟨l, n, rfl⟩ := more_of_below hb; clear hb))
  all_goals go_wp2
  all_goals go_returns
  all_goals exact ⟨rfl, (by (with_reducible repeat' (first | exact .refl _ _ | assumption | refine bmP ?_ ?_ | refine baP ?_ _ ?_ | refine .drew ?_ | refine .setCell ?_ ?_ _ | refine bdP ?_ _)) <;> go_size)⟩
def signV (x : Int) : V := numG (if 0 < x then 10000 else if x < 0 then -10000 else 0)
theorem nums_sign (x : Int) (g c : Nat) (w : World) (h0 : w.cell? ⟨g, 0, none⟩ = some (.int .i64 x)) : Calls Tryz.prog 57 #[.slice (some ⟨g, 0, none⟩) 1 c] w fun e w' => e = .returned (Value.agg #[Value.int .i64 (signV x).tag, Value.int .i64 (signV x).num, Value.string (signV x).str, Value.bool (signV x).is, Value.int .i64 (signV x).code]) ∧ Below w.heap.size w w' := by
  have hl : g < w.heap.size := World.block_lt_of_cell? w _ h0
  unfold signV
  by_cases h1 : 0 < x
  · rw [if_pos h1]
    go_enter Tryz.func57, Tryz.ntmps57
    go_wp2_with (first | (go_at_call 56; refine (value_Num _ _).mono ?_; rintro e w1 ⟨rfl, hb⟩; obtain ⟨l, n, rfl⟩ := more_of_below hb; clear hb))
    all_goals go_returns
    all_goals exact ⟨rfl, (by (with_reducible repeat' (first | exact .refl _ _ | assumption | refine bmP ?_ ?_ | refine baP ?_ _ ?_ | refine .drew ?_ | refine .setCell ?_ ?_ _ | refine bdP ?_ _)) <;> go_size)⟩
  · rw [if_neg h1]
    by_cases h2 : x < 0
    · rw [if_pos h2]
      go_enter Tryz.func57, Tryz.ntmps57
      go_wp2_with (first | (go_at_call 56; refine (value_Num _ _).mono ?_; rintro e w1 ⟨rfl, hb⟩; obtain ⟨l, n, rfl⟩ := more_of_below hb; clear hb))
      all_goals go_returns
      all_goals exact ⟨rfl, (by (with_reducible repeat' (first | exact .refl _ _ | assumption | refine bmP ?_ ?_ | refine baP ?_ _ ?_ | refine .drew ?_ | refine .setCell ?_ ?_ _ | refine bdP ?_ _)) <;> go_size)⟩
    · rw [if_neg h2]
      go_enter Tryz.func57, Tryz.ntmps57
      go_wp2_with (first | (go_at_call 56; refine (value_Num _ _).mono ?_; rintro e w1 ⟨rfl, hb⟩; obtain ⟨l, n, rfl⟩ := more_of_below hb; clear hb))
      all_goals go_returns
      all_goals exact ⟨rfl, (by (with_reducible repeat' (first | exact .refl _ _ | assumption | refine bmP ?_ ?_ | refine baP ?_ _ ?_ | refine .drew ?_ | refine .setCell ?_ ?_ _ | refine bdP ?_ _)) <;> go_size)⟩
theorem nums_int (x : Int) (hx : Is64 x) (g c : Nat) (w : World) (h0 : w.cell? ⟨g, 0, none⟩ = some (.int .i64 x)) : Calls Tryz.prog 58 #[.slice (some ⟨g, 0, none⟩) 1 c] w fun e w' => e = .returned (Value.agg #[Value.int .i64 (numC (floorX x)).tag, Value.int .i64 (numC (floorX x)).num, Value.string (numC (floorX x)).str, Value.bool (numC (floorX x)).is, Value.int .i64 (numC (floorX x)).code]) ∧ Below w.heap.size w w' := by
  have hl : g < w.heap.size := World.block_lt_of_cell? w _ h0
  have HX := Lib.hid hx
  clear hx
  go_enter Tryz.func58, Tryz.ntmps58
  go_wp2_with (first | (go_at_call 60; refine (dec_Floor _ HX.out _).mono ?_; rintro e w1 ⟨rfl, rfl⟩) | (go_at_call 59; refine (nums_told _ _ _).mono ?_; rintro e w1 ⟨rfl, hb⟩; obtain ⟨l, n, rfl⟩ := more_of_below hb; clear hb))
  all_goals go_returns
  all_goals exact ⟨rfl, (by (with_reducible repeat' (first | exact .refl _ _ | assumption | refine bmP ?_ ?_ | refine baP ?_ _ ?_ | refine .drew ?_ | refine .setCell ?_ ?_ _ | refine bdP ?_ _)) <;> go_size)⟩
def floor2X (x s : Int) : Int × Int := if s ≤ 0 then (0, 8) else if (modX x s).2 ≠ 0 then (0, (modX x s).2) else subX x (modX x s).1
theorem nums_floor (x s : Int) (hx : Is64 x) (hs : Is64 s) (w : World) : Calls Tryz.prog 65 #[.int .i64 x, .int .i64 s] w fun e w' => e = .returned (.tuple #[.int .i64 (floor2X x s).1, .int .i64 (floor2X x s).2]) ∧ w = w' := by
  have HM := Lib.hid (modX_64 x s hx hs)
  have HX := Lib.hid hx
  have HS := Lib.hid hs
  by_cases h0 : s ≤ 0
  · have e : floor2X x s = (0, 8) := if_pos h0
    rw [e]
    clear e hx hs
    go_enter Tryz.func65, Tryz.ntmps65
    go_wp2_with fail
    go_returns
    exact ⟨rfl, rfl⟩
  · by_cases h : (modX x s).2 = 0
    · have e : floor2X x s = subX x (modX x s).1 := by unfold floor2X; rw [if_neg h0, if_neg (fun h' => h' h)]
      rw [e]
      have k1 : ((modX x s).2 != 0) = false := by simp [h]
      clear e hx hs
      go_enter Tryz.func65, Tryz.ntmps65
      go_wp2_with (first | (go_at_call 68; refine (dec_Mod _ _ HX.out HS.out _).mono ?_; rintro e w1 ⟨rfl, rfl⟩) | (go_at_call 149; refine (dec_Sub _ _ HX.out HM.out _).mono ?_; rintro e w1 ⟨rfl, rfl⟩))
      go_returns
      exact ⟨rfl, rfl⟩
    · have e : floor2X x s = (0, (modX x s).2) := by unfold floor2X; rw [if_neg h0, if_pos h]
      rw [e]
      have k1 : ((modX x s).2 != 0) = true := by simp [h]
      clear e hx hs
      go_enter Tryz.func65, Tryz.ntmps65
      go_wp2_with (first | (go_at_call 68; refine (dec_Mod _ _ HX.out HS.out _).mono ?_; rintro e w1 ⟨rfl, rfl⟩))
      go_returns
      exact ⟨rfl, rfl⟩
theorem nums_floorF (x s : Int) (hx : Is64 x) (hs : Is64 s) (g c : Nat) (w : World) (h0 : w.cell? ⟨g, 0, none⟩ = some (.int .i64 x)) (h1 : w.cell? ⟨g, 1, none⟩ = some (.int .i64 s)) : Calls Tryz.prog 64 #[.slice (some ⟨g, 0, none⟩) 2 c] w fun e w' => e = .returned (Value.agg #[Value.int .i64 (numC (floor2X x s)).tag, Value.int .i64 (numC (floor2X x s)).num, Value.string (numC (floor2X x s)).str, Value.bool (numC (floor2X x s)).is, Value.int .i64 (numC (floor2X x s)).code]) ∧ Below w.heap.size w w' := by
  have hl : g < w.heap.size := World.block_lt_of_cell? w _ h0
  have HX := Lib.hid hx
  have HS := Lib.hid hs
  clear hx hs
  go_enter Tryz.func64, Tryz.ntmps64
  go_wp2_with fail
  go_region_held3 (fun w' => w'.cell? ⟨g, 0, none⟩ = some (.int .i64 x) ∧ w'.cell? ⟨g, 1, none⟩ = some (.int .i64 s))
    (first | (go_keep; done) | (go_split_ands; refine ⟨?_, ?_⟩ <;> (repeat (first | assumption | with_reducible refine cell_moreJ ?_ _ _ | with_reducible refine cell_allocJ ?_ _ | with_reducible refine cell_drewJ ?_))))
    (first | (go_at_call 65; refine (nums_floor _ _ HX.out HS.out _).mono ?_; rintro e w1 ⟨rfl, rfl⟩) | (go_at_call 59; refine (nums_told _ _ _).mono ?_; rintro e w1 ⟨rfl, hb⟩; obtain ⟨l, n, rfl⟩ := more_of_below hb; clear hb))
  all_goals go_wp2
  all_goals go_returns
  all_goals exact ⟨rfl, (by (with_reducible repeat' (first | exact .refl _ _ | assumption | refine bmP ?_ ?_ | refine baP ?_ _ ?_ | refine .drew ?_ | refine .setCell ?_ ?_ _ | refine bdP ?_ _)) <;> go_size)⟩
theorem nums_mod (x s : Int) (hx : Is64 x) (hs : Is64 s) (g c : Nat) (w : World) (h0 : w.cell? ⟨g, 0, none⟩ = some (.int .i64 x)) (h1 : w.cell? ⟨g, 1, none⟩ = some (.int .i64 s)) : Calls Tryz.prog 67 #[.slice (some ⟨g, 0, none⟩) 2 c] w fun e w' => e = .returned (Value.agg #[Value.int .i64 (numC (modX x s)).tag, Value.int .i64 (numC (modX x s)).num, Value.string (numC (modX x s)).str, Value.bool (numC (modX x s)).is, Value.int .i64 (numC (modX x s)).code]) ∧ Below w.heap.size w w' := by
  have hl : g < w.heap.size := World.block_lt_of_cell? w _ h0
  have HX := Lib.hid hx
  have HS := Lib.hid hs
  clear hx hs
  go_enter Tryz.func67, Tryz.ntmps67
  go_wp2_with fail
  go_region_held3 (fun w' => w'.cell? ⟨g, 0, none⟩ = some (.int .i64 x) ∧ w'.cell? ⟨g, 1, none⟩ = some (.int .i64 s))
    (first | (go_keep; done) | (go_split_ands; refine ⟨?_, ?_⟩ <;> (repeat (first | assumption | with_reducible refine cell_moreJ ?_ _ _ | with_reducible refine cell_allocJ ?_ _ | with_reducible refine cell_drewJ ?_))))
    (first | (go_at_call 68; refine (dec_Mod _ _ HX.out HS.out _).mono ?_; rintro e w1 ⟨rfl, rfl⟩) | (go_at_call 59; refine (nums_told _ _ _).mono ?_; rintro e w1 ⟨rfl, hb⟩; obtain ⟨l, n, rfl⟩ := more_of_below hb; clear hb))
  all_goals go_wp2
  all_goals go_returns
  all_goals exact ⟨rfl, (by (with_reducible repeat' (first | exact .refl _ _ | assumption | refine bmP ?_ ?_ | refine baP ?_ _ ?_ | refine .drew ?_ | refine .setCell ?_ ?_ _ | refine bdP ?_ _)) <;> go_size)⟩
def ceilX (x s : Int) : Int × Int := (-(floor2X (-x) s).1, (floor2X (-x) s).2)
theorem floor2_63 (x s : Int) : In63 (floor2X x s).1 := by
  unfold floor2X
  split
  · exact ⟨by simp, by simp⟩
  · split
    · exact ⟨by simp, by simp⟩
    · unfold subX
      split
      · exact ⟨by simp, by simp⟩
      · unfold addX In63
        split <;> simp <;> omega
set_option maxRecDepth 100000 in
theorem nums_ceil (x s : Int) (hx : In63 x) (hs : Is64 s) (g c : Nat) (w : World) (h0 : w.cell? ⟨g, 0, none⟩ = some (.int .i64 x)) (h1 : w.cell? ⟨g, 1, none⟩ = some (.int .i64 s)) : Calls Tryz.prog 66 #[.slice (some ⟨g, 0, none⟩) 2 c] w fun e w' => e = .returned (Value.agg #[Value.int .i64 (numC (ceilX x s)).tag, Value.int .i64 (numC (ceilX x s)).num, Value.string (numC (ceilX x s)).str, Value.bool (numC (ceilX x s)).is, Value.int .i64 (numC (ceilX x s)).code]) ∧ Below w.heap.size w w' := by
  have hl : g < w.heap.size := World.block_lt_of_cell? w _ h0
  have hw : IntKind.i64.wrap (-x) = -x := by unfold In63 at hx; rw [IntKind.wrap_i64]; omega
  have hq := floor2_63 (-x) s
  have hw2 : IntKind.i64.wrap (-(floor2X (-x) s).1) = -(floor2X (-x) s).1 := by unfold In63 at hq; rw [IntKind.wrap_i64]; omega
  have HX := Lib.hid (show Is64 (-x) from by unfold In63 at hx; exact ⟨by omega, by omega⟩)
  have HS := Lib.hid hs
  clear hx hs hq
  go_enter Tryz.func66, Tryz.ntmps66
  go_wp2_with fail
  go_region_held3 (fun w' => w'.cell? ⟨g, 0, none⟩ = some (.int .i64 x) ∧ w'.cell? ⟨g, 1, none⟩ = some (.int .i64 s))
    (first | (go_keep; done) | (go_split_ands; refine ⟨?_, ?_⟩ <;> (repeat (first | assumption | with_reducible refine cell_moreJ ?_ _ _ | with_reducible refine cell_allocJ ?_ _ | with_reducible refine cell_drewJ ?_))))
    (first | (go_at_call 65; refine (nums_floor _ _ HX.out HS.out _).mono ?_; rintro e w1 ⟨rfl, rfl⟩) | (go_at_call 59; refine (nums_told _ _ _).mono ?_; rintro e w1 ⟨rfl, hb⟩; obtain ⟨l, n, rfl⟩ := more_of_below hb; clear hb))
  all_goals go_wp2_with (first | (go_at_call 65; refine (nums_floor _ _ HX.out HS.out _).mono ?_; rintro e w1 ⟨rfl, rfl⟩) | (go_at_call 59; refine (nums_told _ _ _).mono ?_; rintro e w1 ⟨rfl, hb⟩; obtain ⟨l, n, rfl⟩ := more_of_below hb; clear hb))
  all_goals go_returns
  all_goals exact ⟨rfl, (by (with_reducible repeat' (first | exact .refl _ _ | assumption | refine bmP ?_ ?_ | refine baP ?_ _ ?_ | refine .drew ?_ | refine .setCell ?_ ?_ _ | refine bdP ?_ _)) <;> go_size)⟩
end Go.Proofs.YtegbhdeaicgpkaaGreatDoor
namespace Go.Proofs.YtegbhdeaicgpkaaGreatDoor
open Go Go.RowKit
theorem nums_size (x : Int) (hx : In63 x) (w : World) : Calls Tryz.prog 155 #[.int .i64 x] w fun e w' => e = .returned (.int .u64 (x.natAbs : Nat)) ∧ w = w' := by
  unfold In63 at hx
  have hw : IntKind.i64.wrap (-x) = -x := by rw [IntKind.wrap_i64]; omega
  have hm : (if x < -x then -x else x) = (x.natAbs : Int) := by split <;> omega
  have hu : IntKind.u64.wrap (x.natAbs : Int) = (x.natAbs : Int) := by rw [IntKind.wrap_u64]; omega
  go_enter Tryz.func155, Tryz.ntmps155
  go_wp2
  all_goals go_returns
  all_goals first | exact ⟨rfl, rfl⟩ | trace_state
def wholeX (n : Nat) (low : Bool) : V := if 922337203685477 < n then errG 2 else numG (if low then -((n : Int) * 10000) else (n : Int) * 10000)
theorem nums_whole (n : Nat) (hn : n < 18446744073709551616) (low : Bool) (w : World) : Calls Tryz.prog 154 #[.int .u64 (n : Nat), .bool low] w fun e w' => e = .returned (Value.agg #[Value.int .i64 (wholeX n low).tag, Value.int .i64 (wholeX n low).num, Value.string (wholeX n low).str, Value.bool (wholeX n low).is, Value.int .i64 (wholeX n low).code]) ∧ Below w.heap.size w w' := by
  unfold wholeX
  by_cases h : 922337203685477 < n
  · have h' : (922337203685477 : Int) < n := by omega
    rw [if_pos h]
    go_enter Tryz.func154, Tryz.ntmps154
    go_wp2_with (first | (go_at_call 27; refine (value_Err _ _).mono ?_; rintro e w1 ⟨rfl, hb⟩; obtain ⟨l, m, rfl⟩ := more_of_below hb; clear hb))
    all_goals go_returns
    all_goals exact ⟨rfl, (by (with_reducible repeat' (first | exact .refl _ _ | assumption | refine bmP ?_ ?_ | refine baP ?_ _ ?_ | refine .drew ?_ | refine .setCell ?_ ?_ _ | refine bdP ?_ _)) <;> go_size)⟩
  · have h' : ¬ (922337203685477 : Int) < n := by omega
    have h1 : IntKind.i64.wrap (n : Int) = n := by rw [IntKind.wrap_i64]; omega
    have h2 : IntKind.i64.wrap ((n : Int) * 10000) = (n : Int) * 10000 := by rw [IntKind.wrap_i64]; omega
    have h3 : IntKind.i64.wrap (-((n : Int) * 10000)) = -((n : Int) * 10000) := by rw [IntKind.wrap_i64]; omega
    rw [if_neg h]
    clear hn
    cases low
    · rw [if_neg (by decide)]
      go_enter Tryz.func154, Tryz.ntmps154
      go_wp2_with (first | (go_at_call 56; refine (value_Num _ _).mono ?_; rintro e w1 ⟨rfl, hb⟩; obtain ⟨l, m, rfl⟩ := more_of_below hb; clear hb))
      all_goals go_returns
      all_goals exact ⟨rfl, (by (with_reducible repeat' (first | exact .refl _ _ | assumption | refine bmP ?_ ?_ | refine baP ?_ _ ?_ | refine .drew ?_ | refine .setCell ?_ ?_ _ | refine bdP ?_ _)) <;> go_size)⟩
    · rw [if_pos rfl]
      go_enter Tryz.func154, Tryz.ntmps154
      go_wp2_with (first | (go_at_call 56; refine (value_Num _ _).mono ?_; rintro e w1 ⟨rfl, hb⟩; obtain ⟨l, m, rfl⟩ := more_of_below hb; clear hb))
      all_goals go_returns
      all_goals exact ⟨rfl, (by (with_reducible repeat' (first | exact .refl _ _ | assumption | refine bmP ?_ ?_ | refine baP ?_ _ ?_ | refine .drew ?_ | refine .setCell ?_ ?_ _ | refine bdP ?_ _)) <;> go_size)⟩
def quotX (x s : Int) : V := if s = 0 then errG 3 else wholeX (x.natAbs / s.natAbs) (decide (decide (x < 0) ≠ decide (s < 0)))
set_option maxRecDepth 100000 in
set_option maxHeartbeats 400000 in
theorem nums_quot (x s : Int) (hx : In63 x) (hs : In63 s) (g c : Nat) (w : World) (h0 : w.cell? ⟨g, 0, none⟩ = some (.int .i64 x)) (h1 : w.cell? ⟨g, 1, none⟩ = some (.int .i64 s)) : Calls Tryz.prog 69 #[.slice (some ⟨g, 0, none⟩) 2 c] w fun e w' => e = .returned (Value.agg #[Value.int .i64 (quotX x s).tag, Value.int .i64 (quotX x s).num, Value.string (quotX x s).str, Value.bool (quotX x s).is, Value.int .i64 (quotX x s).code]) ∧ Below w.heap.size w w' := by
  have hl : g < w.heap.size := World.block_lt_of_cell? w _ h0
  unfold quotX
  by_cases h : s = 0
  · rw [if_pos h]
    go_enter Tryz.func69, Tryz.ntmps69
    go_wp2_with (first | (go_at_call 27; refine (value_Err _ _).mono ?_; rintro e w1 ⟨rfl, hb⟩; obtain ⟨l, m, rfl⟩ := more_of_below hb; clear hb))
    all_goals go_returns
    all_goals exact ⟨rfl, (by (with_reducible repeat' (first | exact .refl _ _ | assumption | refine bmP ?_ ?_ | refine baP ?_ _ ?_ | refine .drew ?_ | refine .setCell ?_ ?_ _ | refine bdP ?_ _)) <;> go_size)⟩
  · rw [if_neg h]
    have hb0 := xor_low x s hx.to64 hs.to64
    have hb1 : decide (bits BinOp.xor IntKind.i64 x s < 0) = decide (decide (x < 0) ≠ decide (s < 0)) := by rw [decide_eq_decide]; rw [hb0]
    obtain ⟨lw, hlw⟩ : ∃ lw, decide (decide (x < 0) ≠ decide (s < 0)) = lw := ⟨_, rfl⟩
    rw [hlw] at hb1 ⊢
    have hq : s.natAbs ≠ 0 := by omega
    have hq2 : ((s.natAbs : Nat) : Int) ≠ 0 := by omega
    obtain ⟨q, hqq⟩ : ∃ q, x.natAbs / s.natAbs = q := ⟨_, rfl⟩
    have hq3 : q < 18446744073709551616 := by
      have := Nat.div_le_self x.natAbs s.natAbs
      unfold In63 at hx
      omega
    rw [hqq]
    have hq4 : ((x.natAbs : Nat) : Int) / ((s.natAbs : Nat) : Int) = (q : Int) := by rw [← hqq]; rfl
    have hq5 : ((x.natAbs : Nat) : Int).tdiv ((s.natAbs : Nat) : Int) = (q : Int) := by rw [← hqq]; rfl
    have hq6 : IntKind.u64.wrap (q : Int) = q := by rw [IntKind.wrap_u64]; omega
    have HX := Lib.hid hx
    have HS := Lib.hid hs
    clear hx hs hb0 hlw hqq
    go_enter Tryz.func69, Tryz.ntmps69
    go_wp2_with fail
    go_region_held3 (fun w' => w'.cell? ⟨g, 0, none⟩ = some (.int .i64 x) ∧ w'.cell? ⟨g, 1, none⟩ = some (.int .i64 s))
      (first | (go_keep; done) | (go_split_ands; refine ⟨?_, ?_⟩ <;> (repeat (first | assumption | with_reducible refine cell_moreJ ?_ _ _ | with_reducible refine cell_allocJ ?_ _ | with_reducible refine cell_drewJ ?_))))
      (first | (go_at_call_of 155 (Value.int .i64 x); refine (nums_size x HX.out _).mono ?_; rintro e w1 ⟨rfl, rfl⟩) | (go_at_call_of 155 (Value.int .i64 s); refine (nums_size s HS.out _).mono ?_; rintro e w1 ⟨rfl, rfl⟩) | (go_at_call 154; refine (nums_whole q hq3 lw _).mono ?_; rintro e w1 ⟨rfl, hb⟩; obtain ⟨l, m, rfl⟩ := more_of_below hb; clear hb))
    all_goals go_wp2
    all_goals go_returns
    all_goals exact ⟨rfl, (by (with_reducible repeat' (first | exact .refl _ _ | assumption | refine bmP ?_ ?_ | refine baP ?_ _ ?_ | refine .drew ?_ | refine .setCell ?_ ?_ _ | refine bdP ?_ _)) <;> go_size)⟩
def clampX (a b c : Int) : V := if c < b then errG 8 else numG (min (max a b) c)
set_option maxRecDepth 100000 in
set_option maxHeartbeats 400000 in
theorem nums_clamp (x a b : Int) (g c : Nat) (w : World) (h0 : w.cell? ⟨g, 0, none⟩ = some (.int .i64 x)) (h1 : w.cell? ⟨g, 1, none⟩ = some (.int .i64 a)) (h2 : w.cell? ⟨g, 2, none⟩ = some (.int .i64 b)) : Calls Tryz.prog 76 #[.slice (some ⟨g, 0, none⟩) 3 c] w fun e w' => e = .returned (Value.agg #[Value.int .i64 (clampX x a b).tag, Value.int .i64 (clampX x a b).num, Value.string (clampX x a b).str, Value.bool (clampX x a b).is, Value.int .i64 (clampX x a b).code]) ∧ Below w.heap.size w w' := by
  have hl : g < w.heap.size := World.block_lt_of_cell? w _ h0
  have hm : (if x < a then a else x) = max x a := by split <;> omega
  have hm2 : (if b < max x a then b else max x a) = min (max x a) b := by split <;> omega
  unfold clampX
  by_cases h : b < a
  · rw [if_pos h]
    clear hm hm2
    go_enter Tryz.func76, Tryz.ntmps76
    go_wp2_with fail
    go_quiet (fail)
    all_goals go_wp2_with (first | (go_at_call 27; refine (value_Err _ _).mono ?_; rintro e w1 ⟨rfl, hb⟩; obtain ⟨l, m, rfl⟩ := more_of_below hb; clear hb))
    all_goals go_returns
    all_goals exact ⟨rfl, (by (with_reducible repeat' (first | exact .refl _ _ | assumption | refine bmP ?_ ?_ | refine baP ?_ _ ?_ | refine .drew ?_ | refine .setCell ?_ ?_ _ | refine bdP ?_ _)) <;> go_size)⟩
  · rw [if_neg h]
    go_enter Tryz.func76, Tryz.ntmps76
    go_wp2_with fail
    go_quiet (fail)
    all_goals go_wp2_with fail
    go_region_held3 (fun w' => w'.cell? ⟨g, 0, none⟩ = some (.int .i64 x) ∧ w'.cell? ⟨g, 1, none⟩ = some (.int .i64 a) ∧ w'.cell? ⟨g, 2, none⟩ = some (.int .i64 b))
      (first | (go_keep; done) | (go_split_ands; refine ⟨?_, ?_, ?_⟩ <;> (repeat (first | assumption | with_reducible refine cell_moreJ ?_ _ _ | with_reducible refine cell_allocJ ?_ _ | with_reducible refine cell_drewJ ?_))))
      (first | (go_at_call 56; refine (value_Num _ _).mono ?_; rintro e w1 ⟨rfl, hb⟩; obtain ⟨l, m, rfl⟩ := more_of_below hb; clear hb))
    all_goals go_wp2
    all_goals go_returns
    all_goals exact ⟨rfl, (by (with_reducible repeat' (first | exact .refl _ _ | assumption | refine bmP ?_ ?_ | refine baP ?_ _ ?_ | refine .drew ?_ | refine .setCell ?_ ?_ _ | refine bdP ?_ _)) <;> go_size)⟩
theorem i64_and1 (n : Int) : bits BinOp.and IntKind.i64 n 1 = n % 2 := by
  have h127 : (BitVec.ofInt 64 1).toNat = 2 ^ 1 - 1 := by decide
  have key : (BitVec.ofInt 64 n &&& BitVec.ofInt 64 1).toNat = (n % ((2 ^ 64 : Nat) : Int)).toNat % 2 ^ 1 := by
    rw [BitVec.toNat_and, BitVec.toNat_ofInt, h127, Nat.and_two_pow_sub_one_eq_mod]
  show IntKind.i64.wrap ((BitVec.ofInt 64 n &&& BitVec.ofInt 64 1).toNat : Nat) = n % 2
  rw [key, IntKind.wrap_i64]
  omega
def oddX (x : Int) : V := if (wholeG x).2 then truthG ((wholeG x).1 % 2 == 1) else errG 8
theorem nums_odd (x : Int) (hx : Is64 x) (g c : Nat) (w : World) (h0 : w.cell? ⟨g, 0, none⟩ = some (.int .i64 x)) : Calls Tryz.prog 77 #[.slice (some ⟨g, 0, none⟩) 1 c] w fun e w' => e = .returned (Value.agg #[Value.int .i64 (oddX x).tag, Value.int .i64 (oddX x).num, Value.string (oddX x).str, Value.bool (oddX x).is, Value.int .i64 (oddX x).code]) ∧ Below w.heap.size w w' := by
  have hl : g < w.heap.size := World.block_lt_of_cell? w _ h0
  have HX := Lib.hid hx
  have ha := i64_and1 (wholeG x).1
  clear hx
  unfold oddX
  cases h : (wholeG x).2
  · rw [if_neg (by decide)]
    go_enter Tryz.func77, Tryz.ntmps77
    go_wp2_with (first | (go_at_call 36; refine (dec_Whole x HX.out.1 HX.out.2 _).mono ?_; rintro e w1 ⟨rfl, rfl⟩) | (go_at_call 27; refine (value_Err _ _).mono ?_; rintro e w1 ⟨rfl, hb⟩; obtain ⟨l, m, rfl⟩ := more_of_below hb; clear hb))
    all_goals go_returns
    all_goals exact ⟨rfl, (by (with_reducible repeat' (first | exact .refl _ _ | assumption | refine bmP ?_ ?_ | refine baP ?_ _ ?_ | refine .drew ?_ | refine .setCell ?_ ?_ _ | refine bdP ?_ _)) <;> go_size)⟩
  · rw [if_pos rfl]
    go_enter Tryz.func77, Tryz.ntmps77
    go_wp2_with (first | (go_at_call 36; refine (dec_Whole x HX.out.1 HX.out.2 _).mono ?_; rintro e w1 ⟨rfl, rfl⟩) | (go_at_call 98; refine (value_Truth _ _).mono ?_; rintro e w1 ⟨rfl, hb⟩; obtain ⟨l, m, rfl⟩ := more_of_below hb; clear hb))
    all_goals go_returns
    all_goals exact ⟨rfl, (by (with_reducible repeat' (first | exact .refl _ _ | assumption | refine bmP ?_ ?_ | refine baP ?_ _ ?_ | refine .drew ?_ | refine .setCell ?_ ?_ _ | refine bdP ?_ _)) <;> go_size)⟩
theorem nums_gcd (b : Nat) : ∀ (a : Nat), a < 18446744073709551616 → b < 18446744073709551616 → ∀ w : World, Calls Tryz.prog 159 #[.int .u64 (a : Nat), .int .u64 (b : Nat)] w fun e w' => e = .returned (.int .u64 (Nat.gcd a b : Nat)) ∧ w = w' := by
  induction b using Nat.strongRecOn with
  | ind b ih =>
    intro a ha hb w
    by_cases h : b = 0
    · subst h
      rw [Nat.gcd_zero_right]
      clear ih
      go_enter Tryz.func159, Tryz.ntmps159
      go_wp2
      go_returns
      exact ⟨rfl, rfl⟩
    · have hr : a % b < b := Nat.mod_lt a (by omega)
      have e : Nat.gcd a b = Nat.gcd b (a % b) := by rw [Nat.gcd_comm, Nat.gcd_rec, Nat.gcd_comm]
      have IH := Lib.hid (ih (a % b) hr b hb (by omega))
      have h2 : ((b : Nat) : Int) ≠ 0 := by omega
      have h3 : ((a : Nat) : Int) % ((b : Nat) : Int) = ((a % b : Nat) : Int) := rfl
      have h4 : ((a : Nat) : Int).tmod ((b : Nat) : Int) = ((a % b : Nat) : Int) := rfl
      obtain ⟨m, hm⟩ : ∃ m, a % b = m := ⟨_, rfl⟩
      rw [hm] at IH h3 h4 e
      rw [e]
      clear ih hr e hm
      go_enter Tryz.func159, Tryz.ntmps159
      go_wp2_with (first | (go_at_call 159; refine (IH.out _).mono ?_; rintro e w1 ⟨rfl, rfl⟩))
      all_goals go_returns
      all_goals exact ⟨rfl, rfl⟩
end Go.Proofs.YtegbhdeaicgpkaaGreatDoor
