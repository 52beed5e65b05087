/-
  Parts of a proof: NumsF, NumsG, NumsH.
-/
import Derived.Test.YtegbhdeaicgpkaaGreatDoorJ16
import Derived.Test.YtegbhdeaicgpkaaGreatDoorJ21
import Derived.Laws.Externs
import Derived.Laws.OwnMore
set_option linter.all false
namespace Go.Proofs.YtegbhdeaicgpkaaGreatDoor
open Go Go.RowKit
def U (l : List Nat) : List Value := l.map fun n => .int .u64 ((n : Nat) : Int)
theorem add64 (x y : Nat) (w : World) : (callFunc 182 #[.int .u64 ((x : Nat) : Int), .int .u64 ((y : Nat) : Int), .int .u64 0]).run Tryz.prog w = .ok (.value (.tuple #[.int .u64 (((x + y) % 18446744073709551616 : Nat) : Int), .int .u64 (((x + y) / 18446744073709551616 : Nat) : Int)])) w := by
  rw [run_callFunc_extern Tryz.func182 (by kernel_rfl) (by kernel_rfl) (by kernel_rfl) (e := add64Entry) (by kernel_rfl), run_add64 x y 0 (by omega) (by omega) (by omega) (by omega)]
  simp only [Result.andThen]
  congr 5 <;> omega
def tStep (x : Nat) (s : List Nat × Nat) (w : Nat) : List Nat × Nat := (s.1 ++ [(w * x + s.2) % 18446744073709551616], (w * x + s.2) / 18446744073709551616)
def tSt (x : Nat) (l : List Nat) : List Nat × Nat := l.foldl (tStep x) ([], 0)
def timesL (x : Nat) (l : List Nat) : List Nat := if 0 < (tSt x l).2 then (tSt x l).1 ++ [(tSt x l).2] else (tSt x l).1
theorem tSt_snoc (x : Nat) (l : List Nat) (w : Nat) : tSt x (l ++ [w]) = tStep x (tSt x l) w := by simp [tSt]
theorem take1 {α : Type} {xs : List α} {k : Nat} {a : α} (h : xs[k]? = some a) : xs.take (k + 1) = xs.take k ++ [a] := by
  rw [List.take_add_one, h]
  rfl
theorem snoc_ind {P : List Nat → Prop} (h0 : P []) (h1 : ∀ l a, P l → P (l ++ [a])) (l : List Nat) : P l := by
  rw [← l.reverse_reverse]
  induction l.reverse with
  | nil => exact h0
  | cons a t ih => rw [List.reverse_cons]; exact h1 _ _ ih
def Word (n : Nat) : Prop := n < 18446744073709551616
theorem mulW {w x : Nat} (hw : Word w) : w * x ≤ 18446744073709551615 * x := Nat.mul_le_mul_right x (by unfold Word at hw; omega)
theorem tSt_over (x : Nat) : ∀ (l : List Nat), (∀ w ∈ l, Word w) → (tSt x l).2 ≤ x := by
  intro l
  refine snoc_ind (P := fun l => (∀ w ∈ l, Word w) → (tSt x l).2 ≤ x) ?_ ?_ l
  · intro _; exact Nat.zero_le _
  · intro l w ih h
    have h1 := ih (fun u hu => h u (List.mem_append_left _ hu))
    have h2 := mulW (x := x) (h w (List.mem_append_right _ (List.mem_singleton.2 rfl)))
    rw [tSt_snoc]
    show (w * x + (tSt x l).2) / 18446744073709551616 ≤ x
    generalize w * x = p at *
    omega
theorem tSt_len (x : Nat) (l : List Nat) : (tSt x l).1.length = l.length := by
  refine snoc_ind (P := fun l => (tSt x l).1.length = l.length) rfl ?_ l
  intro l w ih
  rw [tSt_snoc]
  simp [tStep, ih]
theorem tSt_word (x : Nat) (l : List Nat) : ∀ u ∈ (tSt x l).1, Word u := by
  refine snoc_ind (P := fun l => ∀ u ∈ (tSt x l).1, Word u) ?_ ?_ l
  · intro u hu; simp [tSt] at hu
  · intro l w ih u hu
    rw [tSt_snoc] at hu
    simp only [tStep, List.mem_append, List.mem_singleton] at hu
    rcases hu with hu | hu
    · exact ih u hu
    · subst hu; exact Nat.mod_lt _ (by decide)
theorem times_len (x : Nat) (l : List Nat) : (timesL x l).length ≤ l.length + 1 := by
  unfold timesL
  split <;> simp [tSt_len]
theorem times_word (x : Nat) (hx : Word x) (l : List Nat) (hl : ∀ w ∈ l, Word w) : ∀ u ∈ timesL x l, Word u := by
  intro u hu
  unfold timesL at hu
  split at hu
  · simp only [List.mem_append, List.mem_singleton] at hu
    rcases hu with hu | hu
    · exact tSt_word x l u hu
    · subst hu
      have := tSt_over x l hl
      unfold Word at *
      omega
  · exact tSt_word x l u hu
theorem info_U : (Tryz.prog.info? 157).map (fun i => (i.zero, i.size, i.bytes)) = some (some (.int .u64 0), 1, 8) := by kernel_rfl
theorem U_append (a b : List Nat) : U (a ++ b) = U a ++ U b := by simp [U]
theorem U_one (n : Nat) : ∀ u ∈ U [n], u.oneCell' = true := by
  intro u hu
  simp only [U, List.map_cons, List.map_nil, List.mem_cons, List.not_mem_nil, or_false] at hu
  subst hu
  rfl
def Words (w : World) (v : Value) (l : List Nat) : Prop := ∃ A c, v = .slice A l.length c ∧ Reads w w.heap.size 1 A l.length (U l)
theorem Words.below {w w' : World} {v : Value} {l : List Nat} (h : Words w v l) (hb : Below w.heap.size w w') : Words w' v l := by
  obtain ⟨A, c, e, hr⟩ := h
  exact ⟨A, c, e, (hr.below hb).lift hb.size⟩
theorem own_words {w : World} {base : Nat} {v : Value} {l : List Nat} (h : w.ownsRow base 157 1 v l.length (U l)) : Words w v l := by
  rcases Nat.eq_zero_or_pos l.length with h0 | h0
  · rcases h.2 with ⟨h1, h2⟩ | ⟨g, cap, cur, e1, _⟩
    · subst h1; exact ⟨none, 0, by rw [h0], by simp [U], fun h => by omega⟩
    · exact ⟨_, _, e1, by simp [U], fun h => by omega⟩
  · obtain ⟨g, c, e, _, _, _, hg, hcell, _⟩ := stk_form h h0
    exact ⟨_, _, e, by simp [U], fun _ => ⟨g, 0, rfl, hg, fun j u hu => by rw [Nat.zero_add]; exact hcell j u hu⟩⟩
set_option maxRecDepth 100000 in
set_option maxHeartbeats 1000000 in
theorem dec_times (x : Nat) (hx : Word x) (l : List Nat) (hl : ∀ u ∈ l, Word u) (hn : l.length ≤ 1000) (v : Value) (w : World) (hv : Words w v l) :
    Calls Tryz.prog 156 #[v, .int .u64 ((x : Nat) : Int)] w fun e w' => (∃ r, e = .returned r ∧ Words w' r (timesL x l)) ∧ Below w.heap.size w w' := by
  obtain ⟨A, c, rfl, hr⟩ := hv
  obtain ⟨i0, hi, hz0, hz1, hz2⟩ := info_parts info_U
  have ha := fun (x y : Nat) (w : World) => add64 x y w
  obtain ⟨n, hln⟩ : ∃ n, l.length = n := ⟨_, rfl⟩
  rw [hln] at hr hn ⊢
  have HL := Lib.hid hl
  have HR := Lib.hid hr
  have HX := Lib.hid hx
  have HA := Lib.hid ha
  obtain ⟨T, hT⟩ : ∃ T, timesL x l = T := ⟨_, rfl⟩
  rw [hT]
  have HT := Lib.hid hT
  clear hl hr hx ha hT
  go_enter Tryz.func156, Tryz.ntmps156
  go_wp2
  go_loopw [15, 6, 5] (fun t o v wr => ∃ j : Nat, j ≤ n ∧ t = .int .i64 j ∧ o = .int .u64 (((tSt x (l.take j)).2 : Nat) : Int) ∧ StkRel w wr 157 1 v j (U (tSt x (l.take j)).1)) (fun t _ _ _ => n - (intOf t).toNat)
  case atStart => exact ⟨0, Nat.zero_le _, rfl, rfl, Below.refl _ _, World.ownsRow_nil _ _ _ _⟩
  case round =>
    obtain ⟨j, hj, rfl, rfl, hR⟩ := hrel
    have HS := Lib.hid hR
    have hsz := hR.1.size
    clear hR
    by_cases hlt : j < n
    · obtain ⟨b, off, rfl, _, hc⟩ := HR.out.2 (by omega)
      obtain ⟨a, ha⟩ : ∃ a, l[j]? = some a := ⟨_, List.getElem?_eq_getElem (show j < l.length by omega)⟩
      have c0 : wr.cell? ⟨b, off + j, none⟩ = some (.int .u64 (a : Int)) := by
        have h1 := hc j _ (show (U l)[j]? = some (.int .u64 (a : Int)) by simp [U, ha])
        exact (HS.out.1.cell (p := ⟨b, _, none⟩) (World.block_lt_of_cell? w _ h1)).trans h1
      have haw := HL.out a (List.mem_of_getElem? ha)
      have ho := tSt_over x (l.take j) (fun u hu => HL.out u (List.mem_of_mem_take hu))
      have hst := tSt_snoc x (l.take j) a
      rw [← take1 ha] at hst
      obtain ⟨o, hoo⟩ : ∃ o, (tSt x (l.take j)).2 = o := ⟨_, rfl⟩
      have hm := mulW (x := x) haw
      obtain ⟨p, hp⟩ : ∃ p, a * x = p := ⟨_, rfl⟩
      obtain ⟨p1, hp1⟩ : ∃ q, p / 18446744073709551616 = q := ⟨_, rfl⟩
      obtain ⟨p0, hp0⟩ : ∃ q, p % 18446744073709551616 = q := ⟨_, rfl⟩
      obtain ⟨s, hs⟩ : ∃ s, (p0 + o) % 18446744073709551616 = s := ⟨_, rfl⟩
      obtain ⟨k, hk⟩ : ∃ k, (p0 + o) / 18446744073709551616 = k := ⟨_, rfl⟩
      have hx2 := HX.out
      unfold Word at hx2 haw
      rw [hoo] at ho
      rw [hp] at hm
      have hov : p1 + k < 18446744073709551616 := by omega
      have e1 : (tSt x (l.take (j + 1))).1 = (tSt x (l.take j)).1 ++ [s] := by rw [hst]; simp only [tStep, hoo, hp]; congr 2; omega
      have e2 : (tSt x (l.take (j + 1))).2 = p1 + k := by rw [hst]; simp only [tStep, hoo, hp]; omega
      have E1 := Lib.hid e1
      have E2 := Lib.hid e2
      have HP := Lib.hid hp
      have HP1 := Lib.hid hp1
      have HP0 := Lib.hid hp0
      have HSS := Lib.hid hs
      have HK := Lib.hid hk
      have HAW := Lib.hid haw
      have hov' : (p1 : Int) + (k : Int) < 18446744073709551616 := by omega
      have hadd := HA.out p0 o
      rw [hs, hk] at hadd
      rw [hoo]
      clear hst hm hp hp1 hp0 hs hk e1 e2 haw ho hoo hc
      go_wp2_with (first | (go_at_call 152; refine (Tryz.bits_Mul64 a x HAW.out HX.out _).mono ?_; rw [HP.out, HP1.out, HP0.out]; rintro e w1 ⟨rfl, rfl⟩) | (at_builtin; refine wpList_append_own _ rfl _ _ 185 rfl w.heap.size 157 i0 _ 1 8 Tryz.underlying185 hi hz0 hz1 hz2 rfl (by decide) _ _ _ rfl (stk_below HS.out.2 (by (with_reducible repeat' (first | exact .refl _ _ | assumption | refine bmP ?_ ?_ | refine baP ?_ _ ?_ | refine .drew ?_ | refine .setCell ?_ ?_ _ | refine bdP ?_ _)) <;> go_size)) _ 1 1 (U [s]) rfl rfl ?_ ?_ ?_ ?_ ?_ ?_))
      · exact fun i u hu => stk_fresh (by simp) i u hu
      · exact U_one s
      · simp only [maxLen]; omega
      · omega
      · have h1 := HS.out.1.size
        simp at h1 ⊢
        try omega
      · intro v' w1 hown' hgrow _
        have R := StkRel.step HS.out (by (with_reducible repeat' (first | exact .refl _ _ | assumption | refine bmP ?_ ?_ | refine baP ?_ _ ?_ | refine .drew ?_ | refine .setCell ?_ ?_ _ | refine bdP ?_ _)) <;> go_size) (show w1.ownsRow w.heap.size 157 1 v' (j + 1) (U (tSt x (l.take j)).1 ++ U [s]) from by simpa using hown') hgrow
        rw [← U_append, ← E1.out] at R
        have HS' := Lib.hid R
        clear hown' hgrow R HS c0
        go_wp2
        go_roundw
        case rel => exact ⟨j + 1, by omega, by go_num, by rw [E2.out]; first | rfl | go_num, HS'.out⟩
        case measure => simp [intOf]; omega
    · obtain rfl : j = n := by omega
      have hS := HS.out
      rw [List.take_of_length_le (by omega)] at hS ⊢
      have hT := HT.out
      have ho := tSt_over x l HL.out
      have hx2 := HX.out
      unfold Word at hx2
      obtain ⟨o, hoo⟩ : ∃ o, (tSt x l).2 = o := ⟨_, rfl⟩
      obtain ⟨L, hLL⟩ : ∃ L, (tSt x l).1 = L := ⟨_, rfl⟩
      have hlen : L.length = j := by rw [← hLL, tSt_len, hln]
      unfold timesL at hT
      rw [hoo, hLL] at hT
      rw [hLL] at hS
      rw [hoo] at ho
      rw [hoo]
      have HS2 := Lib.hid hS
      clear hS HS HT hLL
      by_cases h0 : 0 < o
      · rw [if_pos h0] at hT
        have h0' : (0 : Int) < (o : Int) := by omega
        subst hT
        go_wp2_with (first | (at_builtin; refine wpList_append_own _ rfl _ _ 185 rfl w.heap.size 157 i0 _ 1 8 Tryz.underlying185 hi hz0 hz1 hz2 rfl (by decide) _ _ _ rfl (stk_below HS2.out.2 (by (with_reducible repeat' (first | exact .refl _ _ | assumption | refine bmP ?_ ?_ | refine baP ?_ _ ?_ | refine .drew ?_ | refine .setCell ?_ ?_ _ | refine bdP ?_ _)) <;> go_size)) _ 1 1 (U [o]) rfl rfl ?_ ?_ ?_ ?_ ?_ ?_))
        · exact fun i u hu => stk_fresh (by simp) i u hu
        · exact U_one o
        · simp only [maxLen]; omega
        · omega
        · have h1 := HS2.out.1.size
          simp at h1 ⊢
          try omega
        · intro v' w1 hown' hgrow _
          have R := StkRel.step HS2.out (by (with_reducible repeat' (first | exact .refl _ _ | assumption | refine bmP ?_ ?_ | refine baP ?_ _ ?_ | refine .drew ?_ | refine .setCell ?_ ?_ _ | refine bdP ?_ _)) <;> go_size) (show w1.ownsRow w.heap.size 157 1 v' (j + 1) (U L ++ U [o]) from by simpa using hown') hgrow
          rw [← U_append] at R
          have HS' := Lib.hid R
          clear hown' hgrow R HS2
          go_wp2
          go_returns
          refine ⟨⟨_, rfl, own_words (base := w.heap.size) ?_⟩, HS'.out.1⟩
          have h := HS'.out.2
          have e : (L ++ [o]).length = j + 1 := by simp [hlen]
          rw [e]
          exact h
      · rw [if_neg h0] at hT
        have h0' : ¬ (0 : Int) < (o : Int) := by omega
        subst hT
        go_wp2
        go_returns
        refine ⟨⟨_, rfl, own_words (base := w.heap.size) ?_⟩, HS2.out.1⟩
        rw [hlen]
        exact HS2.out.2
end Go.Proofs.YtegbhdeaicgpkaaGreatDoor
namespace Go.Proofs.YtegbhdeaicgpkaaGreatDoor
open Go Go.RowKit
def bSt (x : Nat) : List Nat → List Nat × Nat
  | [] => ([], 0)
  | w :: ws => (((bSt x ws).2 * 18446744073709551616 + w) / x :: (bSt x ws).1, ((bSt x ws).2 * 18446744073709551616 + w) % x)
def strip (L : List Nat) : Nat → List Nat
  | 0 => []
  | m + 1 => if L.getD m 0 = 0 then strip L m else L.take (m + 1)
def byL (x : Nat) (l : List Nat) : List Nat := strip (bSt x l).1 l.length
theorem bSt_len (x : Nat) : ∀ l, (bSt x l).1.length = l.length
  | [] => rfl
  | w :: ws => by simp [bSt, bSt_len x ws]
theorem bSt_rest (x : Nat) (hx : 0 < x) : ∀ l, (bSt x l).2 < x
  | [] => hx
  | w :: ws => Nat.mod_lt _ hx
theorem bSt_word (x : Nat) (hx : 0 < x) : ∀ l, (∀ u ∈ l, Word u) → ∀ u ∈ (bSt x l).1, Word u
  | [], _, u, hu => by simp [bSt] at hu
  | w :: ws, h, u, hu => by
    simp only [bSt, List.mem_cons] at hu
    rcases hu with hu | hu
    · subst hu
      have h1 := bSt_rest x hx ws
      have h2 := h w (List.mem_cons_self ..)
      unfold Word at *
      refine Nat.div_lt_of_lt_mul ?_
      have h3 : ((bSt x ws).2 + 1) * 18446744073709551616 ≤ x * 18446744073709551616 := Nat.mul_le_mul_right _ h1
      generalize (bSt x ws).2 = r at *
      omega
    · exact bSt_word x hx ws (fun v hv => h v (List.mem_cons_of_mem _ hv)) u hu
theorem strip_sub (L : List Nat) : ∀ m, ∀ u ∈ strip L m, u ∈ L
  | 0, u, hu => by simp [strip] at hu
  | m + 1, u, hu => by
    unfold strip at hu
    split at hu
    · exact strip_sub L m u hu
    · exact List.mem_of_mem_take hu
theorem strip_len (L : List Nat) : ∀ m, (strip L m).length ≤ m
  | 0 => Nat.le_refl _
  | m + 1 => by
    unfold strip
    split
    · have := strip_len L m; omega
    · simp; omega
theorem by_word (x : Nat) (hx : 0 < x) (l : List Nat) (hl : ∀ u ∈ l, Word u) : ∀ u ∈ byL x l, Word u := fun u hu => bSt_word x hx l hl u (strip_sub _ _ u hu)
theorem by_len (x : Nat) (l : List Nat) : (byL x l).length ≤ l.length := strip_len _ _
theorem cell_set_some' {W : World} {a : Addr} {u : Value} (h : (W.cell? a).isSome = true) : (W.setCell a u).cell? a = some u := by
  obtain ⟨v, hv⟩ := Option.isSome_iff_exists.1 h
  exact World.cell?_setCell_same _ _ _ hv
theorem atB_set {w : World} {g i : Nat} {L : List Value} (h : AtB w g L) (hi : i < L.length) (u : Value) : AtB (w.setCell ⟨g, i, none⟩ u) g (L.set i u) := by
  intro j v hv
  have hj : j < L.length := by have := (List.getElem?_eq_some_iff.1 hv).1; simpa using this
  by_cases e : j = i
  · subst e
    rw [List.getElem?_set_self hi] at hv
    cases hv
    exact cell_set_some' (by rw [h j _ (List.getElem?_eq_getElem hj)]; rfl)
  · rw [List.getElem?_set_ne (Ne.symm e)] at hv
    rw [World.cell?_setCell_other _ _ _ _ (by intro h2; injection h2 with _ h3; exact e h3.symm)]
    exact h j v hv
theorem rep_set (k q : Nat) (M : List Nat) : (U (List.replicate (k + 1) 0 ++ M)).set k (.int .u64 (q : Int)) = U (List.replicate k 0 ++ q :: M) := by
  induction k with
  | zero => rfl
  | succ k ih =>
    have e : U (List.replicate (k + 1 + 1) 0 ++ M) = Value.int .u64 0 :: U (List.replicate (k + 1) 0 ++ M) := rfl
    rw [e, List.set_cons_succ, ih]
    rfl
set_option maxRecDepth 100000 in
set_option maxHeartbeats 1000000 in
theorem dec_by (x : Nat) (hx : Word x) (hx0 : 0 < x) (l : List Nat) (hl : ∀ u ∈ l, Word u) (hn : l.length ≤ 1000) (v : Value) (w : World) (hv : Words w v l) :
    Calls Tryz.prog 157 #[v, .int .u64 ((x : Nat) : Int)] w fun e w' => (∃ r, e = .returned r ∧ Words w' r (byL x l)) ∧ Below w.heap.size w w' := by
  obtain ⟨A, c, rfl, hr⟩ := hv
  obtain ⟨i0, hi, hz0, hz1, hz2⟩ := info_parts info_U
  obtain ⟨n, hln⟩ : ∃ n, l.length = n := ⟨_, rfl⟩
  have hmk : ∀ w, (Instr.makeSlice 185 (.int .i64 ((n : Nat) : Int)) (.int .i64 ((n : Nat) : Int))).run Tryz.prog w = .ok (.slice (some ⟨w.heap.size, 0, none⟩) n n) (w.alloc (.cells (madeCells #[.int .u64 0] n) 157)) := fun w => by
    have h := run_makeSlice (P := Tryz.prog) (w := w) 185 157 i0 (.int .u64 0) Tryz.underlying185 hi hz0 .i64 .i64 n n (by omega) (Int.le_refl _) (by rw [hz1]; omega) (by rw [hz2]; omega) (by omega)
    simpa [hz1, Value.cells] using h
  obtain ⟨T, hT⟩ : ∃ T, byL x l = T := ⟨_, rfl⟩
  rw [hT]
  rw [hln] at hr hn ⊢
  have HL := Lib.hid hl
  have HR := Lib.hid hr
  have HX := Lib.hid hx
  have HT := Lib.hid hT
  have HN := Lib.hid hln
  clear hl hr hx hT
  go_enter Tryz.func157, Tryz.ntmps157
  go_wp2
  go_loopw [7, 6] (fun t o wr => ∃ k : Nat, k ≤ n ∧ t = .int .i64 ((k : Int) - 1) ∧ o = .int .u64 (((bSt x (l.drop k)).2 : Nat) : Int) ∧ Below w.heap.size w wr ∧ AtB wr w.heap.size (U (List.replicate k 0 ++ (bSt x (l.drop k)).1)) ∧ (∀ i, wr.frozen? ⟨w.heap.size, i, none⟩ = false) ∧ w.heap.size < wr.heap.size) (fun t _ _ => (intOf t + 1).toNat)
  case atStart =>
    refine ⟨n, Nat.le_refl _, by go_num, ?_, (by (with_reducible repeat' (first | exact .refl _ _ | assumption | refine bmP ?_ ?_ | refine baP ?_ _ ?_ | refine .drew ?_ | refine .setCell ?_ ?_ _ | refine bdP ?_ _)) <;> go_size), ?_, fun i => frozen_of_row _ _ _ _ _ (heap_alloc_new w _), by simp⟩
    · rw [List.drop_of_length_le (by omega)]; rfl
    · rw [List.drop_of_length_le (by omega)]
      have h := AtB.new (w := w) (cs := madeCells #[.int .u64 0] n) (t := 157) rfl
      rw [Go.toList_madeCells_one] at h
      simpa [U, bSt] using h
  case round =>
    obtain ⟨k, hk, rfl, rfl, hB, hAt, hf, hsz⟩ := hrel
    have HB := Lib.hid hB
    have HA := Lib.hid hAt
    have HF := Lib.hid hf
    clear hB hAt hf
    rcases Nat.eq_zero_or_pos k with h0 | h0
    · subst h0
      have hA := HA.out
      rw [List.drop_zero] at hA
      have hT := HT.out
      unfold byL at hT
      rw [HN.out] at hT
      have hlen := bSt_len x l
      rw [HN.out] at hlen
      obtain ⟨qs, hL⟩ : ∃ qs, (bSt x l).1 = qs := ⟨_, rfl⟩
      rw [hL] at hT hlen hA
      have HAL := Lib.hid (show AtB wr w.heap.size (U qs) from hA)
      have HTL := Lib.hid hT
      clear hT hA HA hL HT
      go_wp2
      go_loop [5] (fun t => ∃ m : Nat, m ≤ n ∧ t = .slice (some ⟨w.heap.size, 0, none⟩) m n ∧ strip qs m = T) (fun t => match t with | .slice _ m _ => m | _ => 0)
      case atStart => exact ⟨n, Nat.le_refl _, rfl, HTL.out⟩
      case round =>
        obtain ⟨m, hm, rfl, hs⟩ := hrel
        rcases Nat.eq_zero_or_pos m with h0 | h0
        · subst h0
          have hs' : T = [] := hs.symm
          subst hs'
          clear hs
          go_wp2
          go_returns
          exact ⟨⟨_, rfl, some ⟨w.heap.size, 0, none⟩, n, rfl, rfl, fun h => absurd h (Nat.lt_irrefl 0)⟩, HB.out⟩
        · obtain ⟨j, rfl⟩ : ∃ j, m = j + 1 := ⟨m - 1, by omega⟩
          obtain ⟨a, ha⟩ : ∃ a, qs[j]? = some a := ⟨_, List.getElem?_eq_getElem (show j < qs.length by omega)⟩
          have c0 : wr.cell? ⟨w.heap.size, j, none⟩ = some (.int .u64 (a : Int)) := HAL.out j _ (by simp [U, ha])
          have hg : qs.getD j 0 = a := by simp [List.getD, ha]
          by_cases hz : a = 0
          · subst hz
            have hs' : strip qs j = T := by rw [← hs]; show _ = if qs.getD j 0 = 0 then strip qs j else qs.take (j + 1); rw [if_pos hg]
            have HS := Lib.hid hs'
            clear hs hs' hg ha
            go_wp2
            go_round
            case rel => exact ⟨j, by omega, rfl, HS.out⟩
            case measure => simp
          · have hs' : T = qs.take (j + 1) := by rw [← hs]; show (if qs.getD j 0 = 0 then strip qs j else qs.take (j + 1)) = _; rw [if_neg (by omega)]
            have hz' : ¬ (a : Int) = 0 := by omega
            have HS := Lib.hid hs'
            clear hs hs' hg ha
            go_wp2
            go_returns
            refine ⟨⟨_, rfl, some ⟨w.heap.size, 0, none⟩, n, ?_, ?_, fun h => ⟨w.heap.size, 0, rfl, hsz, fun i u hu => ?_⟩⟩, HB.out⟩
            · rw [HS.out]; simp; omega
            · simp [U]
            · rw [Nat.zero_add]
              rw [HS.out] at hu
              have h1 : (U (qs.take (j + 1)))[i]? = ((U qs).take (j + 1))[i]? := by simp [U, List.map_take]
              rw [h1, List.getElem?_take] at hu
              split at hu
              · exact HAL.out i u hu
              · cases hu
    · obtain ⟨m, rfl⟩ : ∃ m, k = m + 1 := ⟨k - 1, by omega⟩
      obtain ⟨b, off, rfl, hbl, hc⟩ := HR.out.2 (by omega)
      obtain ⟨a, ha⟩ : ∃ a, l[m]? = some a := ⟨_, List.getElem?_eq_getElem (show m < l.length by omega)⟩
      have c0 : wr.cell? ⟨b, off + m, none⟩ = some (.int .u64 (a : Int)) := by
        have h1 := hc m _ (show (U l)[m]? = some (.int .u64 (a : Int)) by simp [U, ha])
        exact (HB.out.cell (p := ⟨b, _, none⟩) (World.block_lt_of_cell? w _ h1)).trans h1
      have hbg : b < wr.heap.size := by omega
      have hd : l.drop m = a :: l.drop (m + 1) := by
        obtain ⟨hm, hv⟩ := List.getElem?_eq_some_iff.1 ha
        rw [List.drop_eq_getElem_cons hm, hv]
      have hst : bSt x (l.drop m) = (((bSt x (l.drop (m + 1))).2 * 18446744073709551616 + a) / x :: (bSt x (l.drop (m + 1))).1, ((bSt x (l.drop (m + 1))).2 * 18446744073709551616 + a) % x) := by rw [hd]; rfl
      have haw : a < 18446744073709551616 := HL.out a (List.mem_of_getElem? ha)
      have hr := bSt_rest x hx0 (l.drop (m + 1))
      obtain ⟨r, hrr⟩ : ∃ r, (bSt x (l.drop (m + 1))).2 = r := ⟨_, rfl⟩
      obtain ⟨M, hM⟩ : ∃ M, (bSt x (l.drop (m + 1))).1 = M := ⟨_, rfl⟩
      obtain ⟨q, hq⟩ : ∃ q, (r * 18446744073709551616 + a) / x = q := ⟨_, rfl⟩
      obtain ⟨r2, hr2⟩ : ∃ r2, (r * 18446744073709551616 + a) % x = r2 := ⟨_, rfl⟩
      rw [hrr, hM, hq, hr2] at hst
      have hA := HA.out
      rw [hM] at hA
      have HA2 := Lib.hid hA
      have d0 : wr.cell? ⟨w.heap.size, m, none⟩ = some (.int .u64 0) := hA m _ (by simp [U, List.getElem?_append_left, List.getElem?_replicate])
      have f0 := HF.out m
      rw [hrr] at hr ⊢
      have hkm : ((m + 1 : Nat) : Int) - 1 = (m : Int) := by omega
      rw [hkm]
      have HQ := Lib.hid hq
      have HR2 := Lib.hid hr2
      have HST := Lib.hid hst
      have HRX := Lib.hid hr
      have HAW := Lib.hid haw
      clear hst hq hr2 hM hrr hr haw hA HA hd ha hc hkm
      go_wp2_with (first | (go_at_call 186; refine (Div64 r a x HRX.out HAW.out HX.out _).mono ?_; rw [HQ.out, HR2.out]; rintro e w1 ⟨rfl, hb⟩; obtain ⟨l1, n1, rfl⟩ := more_of_below hb; clear hb))
      go_roundw
      case rel =>
        refine ⟨m, by omega, by go_num, by rw [HST.out], ?_, ?_, ?_, ?_⟩
        · have hB := HB.out
          exact (by (with_reducible repeat' (first | exact .refl _ _ | assumption | refine bmP ?_ ?_ | refine baP ?_ _ ?_ | refine .drew ?_ | refine .setCell ?_ ?_ _ | refine bdP ?_ _)) <;> go_size)
        · rw [HST.out, ← rep_set]
          exact (atB_set HA2.out (by simp [U]; omega) _).below (by (with_reducible repeat' (first | exact .refl _ _ | assumption | refine bmP ?_ ?_ | refine baP ?_ _ ?_ | refine .drew ?_ | refine .setCell ?_ ?_ _ | refine bdP ?_ _)) <;> go_size)
        · intro i
          rw [more_frozen (by simpa using hsz)]
          simpa using HF.out i
        · simp; omega
      case measure => simp [intOf]
end Go.Proofs.YtegbhdeaicgpkaaGreatDoor
namespace Go.Proofs.YtegbhdeaicgpkaaGreatDoor
open Go Go.RowKit
def iterN (f : List Nat → List Nat) : Nat → List Nat → List Nat
  | 0, l => l
  | k + 1, l => f (iterN f k l)
theorem iter_times (x : Nat) (hx : Word x) (l : List Nat) (hl : ∀ u ∈ l, Word u) : ∀ k, (∀ u ∈ iterN (timesL x) k l, Word u) ∧ (iterN (timesL x) k l).length ≤ l.length + k
  | 0 => ⟨hl, Nat.le_refl _⟩
  | k + 1 => by
    have ih := iter_times x hx l hl k
    have h := times_len x (iterN (timesL x) k l)
    exact ⟨times_word x hx _ ih.1, by show (timesL x _).length ≤ _; omega⟩
theorem iter_by (x : Nat) (hx : 0 < x) (l : List Nat) (hl : ∀ u ∈ l, Word u) : ∀ k, (∀ u ∈ iterN (byL x) k l, Word u) ∧ (iterN (byL x) k l).length ≤ l.length
  | 0 => ⟨hl, Nat.le_refl _⟩
  | k + 1 => by
    have ih := iter_by x hx l hl k
    have h := by_len x (iterN (byL x) k l)
    exact ⟨by_word x hx _ ih.1, by show (byL x _).length ≤ _; omega⟩
theorem word2 : ∀ u ∈ [2], Word u := by
  intro u hu
  simp only [List.mem_cons, List.not_mem_nil, or_false] at hu
  subst hu
  exact (by decide : 2 < 18446744073709551616)
theorem words_new {w : World} {p : Nat} (hp : p = w.heap.size) : Words (w.alloc (.cells #[.int .u64 2] 157)) (.slice (some ⟨p, 0, none⟩) 1 1) [2] := by
  subst hp
  exact ⟨_, _, rfl, rfl, fun _ => ⟨w.heap.size, 0, rfl, by simp, fun j u hu => by rw [Nat.zero_add]; exact (AtB.new rfl) j u hu⟩⟩
theorem word1e4 : Word 10000 := (by decide : 10000 < 18446744073709551616)
def powE (l : List Nat) (b : Bool) : Int × Int := if 1 < l.length then (0, 2) else signX (l.headD 0 / 2 + l.headD 0 % 2) b
def powL (m : Nat) (n : Int) : List Nat := if 0 < n then iterN (byL 10000) (n - 1).toNat (iterN (timesL m) n.toNat [2]) else iterN (byL m) (-n).toNat (iterN (timesL 10000) (1 - n).toNat [2])
def powX (x n : Int) : Int × Int := if x = minI then (0, 2) else if n < -64 ∨ 64 < n then (0, 8) else if n = 0 then (10000, 0) else if x = 0 ∧ n < 0 then (0, 3) else powE (powL x.natAbs n) (lowX x && n % 2 != 0)
set_option maxRecDepth 100000 in
set_option maxHeartbeats 600000 in
theorem power_up (x n : Int) (hx : Is64 x) (hm : x ≠ minI) (hz : x ≠ 0) (hn0 : 0 < n) (hn64 : n ≤ 64) (w : World) : Calls Tryz.prog 70 #[.int .i64 x, .int .i64 n] w fun e w' => e = .returned (.tuple #[.int .i64 (powX x n).1, .int .i64 (powX x n).2]) ∧ Below w.heap.size w w' := by
  have k1 : (x != minI) = true := by simp [hm]
  obtain ⟨k, hk⟩ : ∃ k : Nat, n = (k : Int) + 1 := ⟨(n - 1).toNat, by omega⟩
  obtain ⟨m, hmm⟩ : ∃ m, x.natAbs = m := ⟨_, rfl⟩
  have hmw : Word m := by unfold Is64 at hx; unfold Word; omega
  have hp : powX x n = powE (iterN (byL 10000) k (iterN (timesL m) (k + 1) [2])) (lowX x && n % 2 != 0) := by
    unfold powX powL
    rw [if_neg hm, if_neg (show ¬ (n < -64 ∨ 64 < n) by omega), if_neg (show ¬ n = 0 by omega), if_neg (show ¬ (x = 0 ∧ n < 0) by omega), if_pos (show 0 < n by omega), hmm, show (n - 1).toNat = k by omega, show n.toNat = k + 1 by omega]
  rw [hp]
  obtain ⟨R, hR⟩ : ∃ R, powE (iterN (byL 10000) k (iterN (timesL m) (k + 1) [2])) (lowX x && n % 2 != 0) = R := ⟨_, rfl⟩
  rw [hR]
  have HNK := Lib.hid hk
  have HR := Lib.hid hR
  have HX := Lib.hid hx
  have HM := Lib.hid hmm
  have HMW := Lib.hid hmw
  have HWD := Lib.hid (iter_by 10000 (by decide) _ (iter_times m hmw [2] word2 (k + 1)).1 k).1
  have hnx : IntKind.i64.wrap (n - 1) = (k : Int) := by rw [IntKind.wrap_i64]; omega
  have hn1 : ¬ n < -64 := by omega
  have hn2 : ¬ n < 0 := by omega
  have hn3 : ¬ n = 0 := by omega
  have hk64 : k < 64 := by omega
  have hz2 : (x == 0) = false := by simp [hz]
  clear hR hx hmm hmw hp hm hz hk
  go_enter Tryz.func70, Tryz.ntmps70
  go_wp2_with (first | (go_at_call 102; refine (dec_May _ _).mono ?_; rintro e w1 ⟨rfl, rfl⟩) | (go_at_call 151; refine (dec_size x HX.out _).mono ?_; rw [HM.out]; rintro e w1 ⟨rfl, rfl⟩))
  go_loopw [42, 8] (fun t v wr => ∃ j : Nat, j ≤ (k + 1) ∧ t = .int .i64 j ∧ Words wr v (iterN (timesL m) j [2]) ∧ Below w.heap.size w wr) (fun t _ _ => (k + 1) - (intOf t).toNat)
  case atStart => exact ⟨0, Nat.zero_le _, rfl, words_new rfl, (by (with_reducible repeat' (first | exact .refl _ _ | assumption | refine bmP ?_ ?_ | refine baP ?_ _ ?_ | refine .drew ?_ | refine .setCell ?_ ?_ _ | refine bdP ?_ _)) <;> go_size)⟩
  case round =>
    obtain ⟨j, hj, rfl, hW, hB⟩ := hrel
    have HW := Lib.hid hW
    have HB := Lib.hid hB
    have hsz := hB.size
    clear hW hB
    by_cases hlt : j < (k + 1)
    · have hlt' : (j : Int) < n := by have := HNK.out; omega
      have hok := (show (∀ u ∈ iterN (timesL m) j [2], Word u) ∧ (iterN (timesL m) j [2]).length ≤ 1 + j from iter_times m HMW.out [2] word2 j)
      have HO := Lib.hid hok
      clear hok
      go_wp2_with fail
      go_at_call 156
      refine (dec_times m HMW.out  _ HO.out.1 (by have h5 := HO.out.2; omega) _ _ HW.out).mono ?_
      rintro e w1 ⟨⟨v1, rfl, hw1⟩, hb1⟩
      have HW1 := Lib.hid hw1
      have HB1 := Lib.hid (HB.out.trans (hb1.mono hsz))
      clear hw1 hb1
      go_wp2
      go_roundw
      case rel => exact ⟨j + 1, by omega, by go_num, HW1.out, HB1.out⟩
      case measure => simp [intOf]; omega
    · obtain rfl : j = (k + 1) := by omega
      have hlt' : ¬ ((k + 1 : Nat) : Int) < n := by have := HNK.out; omega
      clear hlt hj
      have HW0 := Lib.hid HW.out
      have HB0 := Lib.hid HB.out
      clear HW HB
      go_wp2
      go_loopw [50, 8] (fun t v wr => ∃ j : Nat, j ≤ k ∧ t = .int .i64 j ∧ Words wr v (iterN (byL 10000) j (iterN (timesL m) (k + 1) [2])) ∧ Below w.heap.size w wr) (fun t _ _ => k - (intOf t).toNat)
      case atStart => exact ⟨0, Nat.zero_le _, rfl, HW0.out, HB0.out⟩
      case round =>
        obtain ⟨j, hj, rfl, hW, hB⟩ := hrel
        have HW := Lib.hid hW
        have HB := Lib.hid hB
        have hsz := hB.size
        clear hW hB
        by_cases hlt : j < k
        · have hlt' : (j : Int) < (k : Int) := by have := HNK.out; omega
          have hok := (show (∀ u ∈ _, Word u) ∧ (iterN (byL 10000) j (iterN (timesL m) (k + 1) [2])).length ≤ 1000 from by have h1 : (∀ u ∈ iterN (timesL m) (k + 1) [2], Word u) ∧ (iterN (timesL m) (k + 1) [2]).length ≤ 1 + (k + 1) := iter_times m HMW.out [2] word2 (k + 1); have h2 := iter_by 10000 (by decide) _ h1.1 j; exact ⟨h2.1, by have := h1.2; have := h2.2; omega⟩)
          have HO := Lib.hid hok
          clear hok
          go_wp2_with fail
          go_at_call 157
          refine (dec_by 10000 word1e4 (by decide)  _ HO.out.1 (by have h5 := HO.out.2; omega) _ _ HW.out).mono ?_
          rintro e w1 ⟨⟨v1, rfl, hw1⟩, hb1⟩
          have HW1 := Lib.hid hw1
          have HB1 := Lib.hid (HB.out.trans (hb1.mono hsz))
          clear hw1 hb1
          go_wp2
          go_roundw
          case rel => exact ⟨j + 1, by omega, by go_num, HW1.out, HB1.out⟩
          case measure => simp [intOf]; omega
        · obtain rfl : j = k := by omega
          have hlt' : ¬ (j : Int) < (j : Int) := by have := HNK.out; omega
          clear hlt hj
          have hR := HR.out
          obtain ⟨H, hH⟩ : ∃ H, iterN (byL 10000) j (iterN (timesL m) (j + 1) [2]) = H := ⟨_, rfl⟩
          rw [hH] at hR
          have hw := HW.out
          rw [hH] at hw
          obtain ⟨A, c, rfl, hrd⟩ := hw
          have hword : ∀ u ∈ H, Word u := by rw [← hH]; exact HWD.out
          clear HR HW hH HWD
          unfold powE at hR
          by_cases h1 : 1 < H.length
          · have h1' : (1 : Int) < (H.length : Int) := by omega
            rw [if_pos h1] at hR
            subst hR
            clear hrd
            go_wp2
            go_returns
            exact ⟨rfl, HB.out⟩
          · have h1' : ¬ (1 : Int) < (H.length : Int) := by omega
            rw [if_neg h1] at hR
            have hh : Word (H.headD 0) := by
              cases H with
              | nil => exact (by decide : 0 < 18446744073709551616)
              | cons a t => exact hword a (List.mem_cons_self ..)
            obtain ⟨h, hhd⟩ : ∃ h, H.headD 0 = h := ⟨_, rfl⟩
            rw [hhd] at hR hh
            have HH := Lib.hid hh
            have hq : h / 2 + h % 2 < 18446744073709551616 := by unfold Word at hh; omega
            have HHD := Lib.hid hhd
            have HRD := Lib.hid hrd
            have HRR := Lib.hid hR
            unfold Word at hh
            clear hhd hrd hword hR
            go_wp2
            go_loop [75, 9] (fun t u => ∃ j : Nat, j ≤ H.length ∧ t = .int .i64 j ∧ ((j = 0 ∧ u = .int .u64 0) ∨ (0 < j ∧ u = .int .u64 (h : Int)))) (fun t _ => H.length - (intOf t).toNat)
            case atStart => exact ⟨0, Nat.zero_le _, rfl, .inl ⟨rfl, rfl⟩⟩
            case round =>
              obtain ⟨j, hj, rfl, hu⟩ := hrel
              by_cases hlt : j < H.length
              · obtain rfl : j = 0 := by omega
                obtain rfl := (hu.resolve_right (by omega)).2
                obtain ⟨b, off, rfl, _, hc⟩ := HRD.out.2 hlt
                have c0 := hc 0 _ (show (U H)[0]? = some (.int .u64 (h : Int)) by have := HHD.out; cases H with | nil => simp at hlt | cons a t => simp at this; simp [U, this])
                clear hc hu
                rw [Nat.add_zero] at c0
                go_wp2
                go_round
                case rel => exact ⟨1, by omega, by go_num, .inr ⟨by omega, rfl⟩⟩
                case measure => simp [intOf]; omega
              · have hjh : j = H.length := by omega
                have hu3 : u9 = .int .u64 (h : Int) := by
                  rcases hu with ⟨h0, e⟩ | ⟨_, e⟩
                  · have h5 : H = [] := by cases H with | nil => rfl | cons a t => simp at hjh; omega
                    have h6 := HHD.out
                    rw [h5] at h6
                    rw [e, ← h6]
                    rfl
                  · exact e
                subst hu3
                clear hu hlt hj HHD HRD
                obtain ⟨lb, hlb⟩ : ∃ lb, lowX x = lb := ⟨_, rfl⟩
                have hRR := HRR.out
                rw [hlb] at hRR
                subst hRR
                rw [hlb]
                clear hlb
                cases lb
                all_goals go_wp2_with (first | (go_at_call 153; refine (signed_int (h / 2 + h % 2) _ (by omega) hq _ _).mono ?_; rintro e w1 ⟨rfl, rfl⟩))
                all_goals go_returns
                all_goals first | exact ⟨rfl, HB.out⟩ | (refine ⟨?_, HB.out⟩; simp_all)
set_option maxRecDepth 100000 in
set_option maxHeartbeats 600000 in
theorem power_nought (n : Int) (hn0 : 0 < n) (hn64 : n ≤ 64) (w : World) : Calls Tryz.prog 70 #[.int .i64 0, .int .i64 n] w fun e w' => e = .returned (.tuple #[.int .i64 (powX 0 n).1, .int .i64 (powX 0 n).2]) ∧ Below w.heap.size w w' := by
  have k1 : ((0 : Int) != minI) = true := by decide
  have hx : Is64 0 := ⟨by decide, by decide⟩
  have hm : (0 : Int) ≠ minI := by decide
  obtain ⟨k, hk⟩ : ∃ k : Nat, n = (k : Int) + 1 := ⟨(n - 1).toNat, by omega⟩
  obtain ⟨m, hmm⟩ : ∃ m, (0 : Int).natAbs = m := ⟨_, rfl⟩
  have hmw : Word m := by unfold Word; omega
  have hp : powX 0 n = powE (iterN (byL 10000) k (iterN (timesL m) (k + 1) [2])) (lowX 0 && n % 2 != 0) := by
    unfold powX powL
    rw [if_neg hm, if_neg (show ¬ (n < -64 ∨ 64 < n) by omega), if_neg (show ¬ n = 0 by omega), if_neg (show ¬ ((0 : Int) = 0 ∧ n < 0) by omega), if_pos (show 0 < n by omega), hmm, show (n - 1).toNat = k by omega, show n.toNat = k + 1 by omega]
  rw [hp]
  obtain ⟨R, hR⟩ : ∃ R, powE (iterN (byL 10000) k (iterN (timesL m) (k + 1) [2])) (lowX 0 && n % 2 != 0) = R := ⟨_, rfl⟩
  rw [hR]
  have HNK := Lib.hid hk
  have HR := Lib.hid hR
  have HX := Lib.hid hx
  have HM := Lib.hid hmm
  have HMW := Lib.hid hmw
  have HWD := Lib.hid (iter_by 10000 (by decide) _ (iter_times m hmw [2] word2 (k + 1)).1 k).1
  have hnx : IntKind.i64.wrap (n - 1) = (k : Int) := by rw [IntKind.wrap_i64]; omega
  have hn1 : ¬ n < -64 := by omega
  have hn2 : ¬ n < 0 := by omega
  have hn3 : ¬ n = 0 := by omega
  have hk64 : k < 64 := by omega
  clear hR hx hmm hmw hp hm hk
  go_enter Tryz.func70, Tryz.ntmps70
  go_wp2_with (first | (go_at_call 102; refine (dec_May _ _).mono ?_; rintro e w1 ⟨rfl, rfl⟩) | (go_at_call 151; refine (dec_size 0 HX.out _).mono ?_; rw [HM.out]; rintro e w1 ⟨rfl, rfl⟩))
  go_loopw [42, 8] (fun t v wr => ∃ j : Nat, j ≤ (k + 1) ∧ t = .int .i64 j ∧ Words wr v (iterN (timesL m) j [2]) ∧ Below w.heap.size w wr) (fun t _ _ => (k + 1) - (intOf t).toNat)
  case atStart => exact ⟨0, Nat.zero_le _, rfl, words_new rfl, (by (with_reducible repeat' (first | exact .refl _ _ | assumption | refine bmP ?_ ?_ | refine baP ?_ _ ?_ | refine .drew ?_ | refine .setCell ?_ ?_ _ | refine bdP ?_ _)) <;> go_size)⟩
  case round =>
    obtain ⟨j, hj, rfl, hW, hB⟩ := hrel
    have HW := Lib.hid hW
    have HB := Lib.hid hB
    have hsz := hB.size
    clear hW hB
    by_cases hlt : j < (k + 1)
    · have hlt' : (j : Int) < n := by have := HNK.out; omega
      have hok := (show (∀ u ∈ iterN (timesL m) j [2], Word u) ∧ (iterN (timesL m) j [2]).length ≤ 1 + j from iter_times m HMW.out [2] word2 j)
      have HO := Lib.hid hok
      clear hok
      go_wp2_with fail
      go_at_call 156
      refine (dec_times m HMW.out  _ HO.out.1 (by have h5 := HO.out.2; omega) _ _ HW.out).mono ?_
      rintro e w1 ⟨⟨v1, rfl, hw1⟩, hb1⟩
      have HW1 := Lib.hid hw1
      have HB1 := Lib.hid (HB.out.trans (hb1.mono hsz))
      clear hw1 hb1
      go_wp2
      go_roundw
      case rel => exact ⟨j + 1, by omega, by go_num, HW1.out, HB1.out⟩
      case measure => simp [intOf]; omega
    · obtain rfl : j = (k + 1) := by omega
      have hlt' : ¬ ((k + 1 : Nat) : Int) < n := by have := HNK.out; omega
      clear hlt hj
      have HW0 := Lib.hid HW.out
      have HB0 := Lib.hid HB.out
      clear HW HB
      go_wp2
      go_loopw [50, 8] (fun t v wr => ∃ j : Nat, j ≤ k ∧ t = .int .i64 j ∧ Words wr v (iterN (byL 10000) j (iterN (timesL m) (k + 1) [2])) ∧ Below w.heap.size w wr) (fun t _ _ => k - (intOf t).toNat)
      case atStart => exact ⟨0, Nat.zero_le _, rfl, HW0.out, HB0.out⟩
      case round =>
        obtain ⟨j, hj, rfl, hW, hB⟩ := hrel
        have HW := Lib.hid hW
        have HB := Lib.hid hB
        have hsz := hB.size
        clear hW hB
        by_cases hlt : j < k
        · have hlt' : (j : Int) < (k : Int) := by have := HNK.out; omega
          have hok := (show (∀ u ∈ _, Word u) ∧ (iterN (byL 10000) j (iterN (timesL m) (k + 1) [2])).length ≤ 1000 from by have h1 : (∀ u ∈ iterN (timesL m) (k + 1) [2], Word u) ∧ (iterN (timesL m) (k + 1) [2]).length ≤ 1 + (k + 1) := iter_times m HMW.out [2] word2 (k + 1); have h2 := iter_by 10000 (by decide) _ h1.1 j; exact ⟨h2.1, by have := h1.2; have := h2.2; omega⟩)
          have HO := Lib.hid hok
          clear hok
          go_wp2_with fail
          go_at_call 157
          refine (dec_by 10000 word1e4 (by decide)  _ HO.out.1 (by have h5 := HO.out.2; omega) _ _ HW.out).mono ?_
          rintro e w1 ⟨⟨v1, rfl, hw1⟩, hb1⟩
          have HW1 := Lib.hid hw1
          have HB1 := Lib.hid (HB.out.trans (hb1.mono hsz))
          clear hw1 hb1
          go_wp2
          go_roundw
          case rel => exact ⟨j + 1, by omega, by go_num, HW1.out, HB1.out⟩
          case measure => simp [intOf]; omega
        · obtain rfl : j = k := by omega
          have hlt' : ¬ (j : Int) < (j : Int) := by have := HNK.out; omega
          clear hlt hj
          have hR := HR.out
          obtain ⟨H, hH⟩ : ∃ H, iterN (byL 10000) j (iterN (timesL m) (j + 1) [2]) = H := ⟨_, rfl⟩
          rw [hH] at hR
          have hw := HW.out
          rw [hH] at hw
          obtain ⟨A, c, rfl, hrd⟩ := hw
          have hword : ∀ u ∈ H, Word u := by rw [← hH]; exact HWD.out
          clear HR HW hH HWD
          unfold powE at hR
          by_cases h1 : 1 < H.length
          · have h1' : (1 : Int) < (H.length : Int) := by omega
            rw [if_pos h1] at hR
            subst hR
            clear hrd
            go_wp2
            go_returns
            exact ⟨rfl, HB.out⟩
          · have h1' : ¬ (1 : Int) < (H.length : Int) := by omega
            rw [if_neg h1] at hR
            have hh : Word (H.headD 0) := by
              cases H with
              | nil => exact (by decide : 0 < 18446744073709551616)
              | cons a t => exact hword a (List.mem_cons_self ..)
            obtain ⟨h, hhd⟩ : ∃ h, H.headD 0 = h := ⟨_, rfl⟩
            rw [hhd] at hR hh
            have HH := Lib.hid hh
            have hq : h / 2 + h % 2 < 18446744073709551616 := by unfold Word at hh; omega
            have HHD := Lib.hid hhd
            have HRD := Lib.hid hrd
            have HRR := Lib.hid hR
            unfold Word at hh
            clear hhd hrd hword hR
            go_wp2
            go_loop [75, 9] (fun t u => ∃ j : Nat, j ≤ H.length ∧ t = .int .i64 j ∧ ((j = 0 ∧ u = .int .u64 0) ∨ (0 < j ∧ u = .int .u64 (h : Int)))) (fun t _ => H.length - (intOf t).toNat)
            case atStart => exact ⟨0, Nat.zero_le _, rfl, .inl ⟨rfl, rfl⟩⟩
            case round =>
              obtain ⟨j, hj, rfl, hu⟩ := hrel
              by_cases hlt : j < H.length
              · obtain rfl : j = 0 := by omega
                obtain rfl := (hu.resolve_right (by omega)).2
                obtain ⟨b, off, rfl, _, hc⟩ := HRD.out.2 hlt
                have c0 := hc 0 _ (show (U H)[0]? = some (.int .u64 (h : Int)) by have := HHD.out; cases H with | nil => simp at hlt | cons a t => simp at this; simp [U, this])
                clear hc hu
                rw [Nat.add_zero] at c0
                go_wp2
                go_round
                case rel => exact ⟨1, by omega, by go_num, .inr ⟨by omega, rfl⟩⟩
                case measure => simp [intOf]; omega
              · have hjh : j = H.length := by omega
                have hu3 : u9 = .int .u64 (h : Int) := by
                  rcases hu with ⟨h0, e⟩ | ⟨_, e⟩
                  · have h5 : H = [] := by cases H with | nil => rfl | cons a t => simp at hjh; omega
                    have h6 := HHD.out
                    rw [h5] at h6
                    rw [e, ← h6]
                    rfl
                  · exact e
                subst hu3
                clear hu hlt hj HHD HRD
                obtain ⟨lb, hlb⟩ : ∃ lb, lowX 0 = lb := ⟨_, rfl⟩
                have hRR := HRR.out
                rw [hlb] at hRR
                subst hRR
                rw [hlb]
                clear hlb
                cases lb
                all_goals go_wp2_with (first | (go_at_call 153; refine (signed_int (h / 2 + h % 2) _ (by omega) hq _ _).mono ?_; rintro e w1 ⟨rfl, rfl⟩))
                all_goals go_returns
                all_goals first | exact ⟨rfl, HB.out⟩ | (refine ⟨?_, HB.out⟩; simp_all)
set_option maxRecDepth 100000 in
set_option maxHeartbeats 600000 in
theorem power_down (x n : Int) (hx : Is64 x) (hm : x ≠ minI) (hz : x ≠ 0) (hn0 : n < 0) (hn64 : -64 ≤ n) (w : World) : Calls Tryz.prog 70 #[.int .i64 x, .int .i64 n] w fun e w' => e = .returned (.tuple #[.int .i64 (powX x n).1, .int .i64 (powX x n).2]) ∧ Below w.heap.size w w' := by
  have k1 : (x != minI) = true := by simp [hm]
  obtain ⟨k, hk⟩ : ∃ k : Nat, n = -(k : Int) := ⟨(-n).toNat, by omega⟩
  obtain ⟨m, hmm⟩ : ∃ m, x.natAbs = m := ⟨_, rfl⟩
  have hmw : Word m := by unfold Is64 at hx; unfold Word; omega
  have hm0 : 0 < m := by omega
  have hp : powX x n = powE (iterN (byL m) k (iterN (timesL 10000) (k + 1) [2])) (lowX x && n % 2 != 0) := by
    unfold powX powL
    rw [if_neg hm, if_neg (show ¬ (n < -64 ∨ 64 < n) by omega), if_neg (show ¬ n = 0 by omega), if_neg (show ¬ (x = 0 ∧ n < 0) by omega), if_neg (show ¬ 0 < n by omega), hmm, show (-n).toNat = k by omega, show (1 - n).toNat = k + 1 by omega]
  rw [hp]
  obtain ⟨R, hR⟩ : ∃ R, powE (iterN (byL m) k (iterN (timesL 10000) (k + 1) [2])) (lowX x && n % 2 != 0) = R := ⟨_, rfl⟩
  rw [hR]
  have HNK := Lib.hid hk
  have HR := Lib.hid hR
  have HX := Lib.hid hx
  have HM := Lib.hid hmm
  have HMW := Lib.hid hmw
  have HM0 := Lib.hid hm0
  have HWD := Lib.hid (iter_by m hm0 _ (iter_times 10000 word1e4 [2] word2 (k + 1)).1 k).1
  have hnx : IntKind.i64.wrap (1 - n) = (k : Int) + 1 := by rw [IntKind.wrap_i64]; omega
  have hny : IntKind.i64.wrap (-n) = (k : Int) := by rw [IntKind.wrap_i64]; omega
  have hn1 : ¬ n < -64 := by omega
  have hn2 : ¬ 64 < n := by omega
  have hn4 : ¬ 0 < n := by omega
  have hn3 : ¬ n = 0 := by omega
  have hk64 : k ≤ 64 := by omega
  have hz2 : (x == 0) = false := by simp [hz]
  have ht : (n.tmod 2 != 0) = (n % 2 != 0) := by
    have h1 := Int.tmod_eq_emod (a := n) (b := 2)
    rw [Bool.eq_iff_iff]
    simp only [bne_iff_ne, ne_eq]
    split at h1 <;> omega
  have HT := Lib.hid ht
  clear hR hx hmm hmw hm0 hp hm hz hk ht
  go_enter Tryz.func70, Tryz.ntmps70
  go_wp2_with (first | (go_at_call 102; refine (dec_May _ _).mono ?_; rintro e w1 ⟨rfl, rfl⟩) | (go_at_call 151; refine (dec_size x HX.out _).mono ?_; rw [HM.out]; rintro e w1 ⟨rfl, rfl⟩))
  go_loopw [57, 8] (fun t v wr => ∃ j : Nat, j ≤ (k + 1) ∧ t = .int .i64 j ∧ Words wr v (iterN (timesL 10000) j [2]) ∧ Below w.heap.size w wr) (fun t _ _ => (k + 1) - (intOf t).toNat)
  case atStart => exact ⟨0, Nat.zero_le _, rfl, words_new rfl, (by (with_reducible repeat' (first | exact .refl _ _ | assumption | refine bmP ?_ ?_ | refine baP ?_ _ ?_ | refine .drew ?_ | refine .setCell ?_ ?_ _ | refine bdP ?_ _)) <;> go_size)⟩
  case round =>
    obtain ⟨j, hj, rfl, hW, hB⟩ := hrel
    have HW := Lib.hid hW
    have HB := Lib.hid hB
    have hsz := hB.size
    clear hW hB
    by_cases hlt : j < (k + 1)
    · have hlt' : (j : Int) < (k : Int) + 1 := by have := HNK.out; omega
      have hok := (show (∀ u ∈ iterN (timesL 10000) j [2], Word u) ∧ (iterN (timesL 10000) j [2]).length ≤ 1 + j from iter_times 10000 word1e4 [2] word2 j)
      have HO := Lib.hid hok
      clear hok
      go_wp2_with fail
      go_at_call 156
      refine (dec_times 10000 word1e4  _ HO.out.1 (by have h5 := HO.out.2; omega) _ _ HW.out).mono ?_
      rintro e w1 ⟨⟨v1, rfl, hw1⟩, hb1⟩
      have HW1 := Lib.hid hw1
      have HB1 := Lib.hid (HB.out.trans (hb1.mono hsz))
      clear hw1 hb1
      go_wp2
      go_roundw
      case rel => exact ⟨j + 1, by omega, by go_num, HW1.out, HB1.out⟩
      case measure => simp [intOf]; omega
    · obtain rfl : j = (k + 1) := by omega
      have hlt' : ¬ (k : Int) + 1 < (k : Int) + 1 := by have := HNK.out; omega
      clear hlt hj
      have HW0 := Lib.hid HW.out
      have HB0 := Lib.hid HB.out
      clear HW HB
      go_wp2
      go_loopw [64, 8] (fun t v wr => ∃ j : Nat, j ≤ k ∧ t = .int .i64 j ∧ Words wr v (iterN (byL m) j (iterN (timesL 10000) (k + 1) [2])) ∧ Below w.heap.size w wr) (fun t _ _ => k - (intOf t).toNat)
      case atStart => exact ⟨0, Nat.zero_le _, rfl, HW0.out, HB0.out⟩
      case round =>
        obtain ⟨j, hj, rfl, hW, hB⟩ := hrel
        have HW := Lib.hid hW
        have HB := Lib.hid hB
        have hsz := hB.size
        clear hW hB
        by_cases hlt : j < k
        · have hlt' : (j : Int) < (k : Int) := by have := HNK.out; omega
          have hok := (show (∀ u ∈ _, Word u) ∧ (iterN (byL m) j (iterN (timesL 10000) (k + 1) [2])).length ≤ 1000 from by have h1 : (∀ u ∈ iterN (timesL 10000) (k + 1) [2], Word u) ∧ (iterN (timesL 10000) (k + 1) [2]).length ≤ 1 + (k + 1) := iter_times 10000 word1e4 [2] word2 (k + 1); have h2 := iter_by m HM0.out _ h1.1 j; exact ⟨h2.1, by have := h1.2; have := h2.2; omega⟩)
          have HO := Lib.hid hok
          clear hok
          go_wp2_with fail
          go_at_call 157
          refine (dec_by m HMW.out HM0.out  _ HO.out.1 (by have h5 := HO.out.2; omega) _ _ HW.out).mono ?_
          rintro e w1 ⟨⟨v1, rfl, hw1⟩, hb1⟩
          have HW1 := Lib.hid hw1
          have HB1 := Lib.hid (HB.out.trans (hb1.mono hsz))
          clear hw1 hb1
          go_wp2
          go_roundw
          case rel => exact ⟨j + 1, by omega, by go_num, HW1.out, HB1.out⟩
          case measure => simp [intOf]; omega
        · obtain rfl : j = k := by omega
          have hlt' : ¬ (j : Int) < (j : Int) := by have := HNK.out; omega
          clear hlt hj
          have hR := HR.out
          obtain ⟨H, hH⟩ : ∃ H, iterN (byL m) j (iterN (timesL 10000) (j + 1) [2]) = H := ⟨_, rfl⟩
          rw [hH] at hR
          have hw := HW.out
          rw [hH] at hw
          obtain ⟨A, c, rfl, hrd⟩ := hw
          have hword : ∀ u ∈ H, Word u := by rw [← hH]; exact HWD.out
          clear HR HW hH HWD
          unfold powE at hR
          by_cases h1 : 1 < H.length
          · have h1' : (1 : Int) < (H.length : Int) := by omega
            rw [if_pos h1] at hR
            subst hR
            clear hrd
            go_wp2
            go_returns
            exact ⟨rfl, HB.out⟩
          · have h1' : ¬ (1 : Int) < (H.length : Int) := by omega
            rw [if_neg h1] at hR
            have hh : Word (H.headD 0) := by
              cases H with
              | nil => exact (by decide : 0 < 18446744073709551616)
              | cons a t => exact hword a (List.mem_cons_self ..)
            obtain ⟨h, hhd⟩ : ∃ h, H.headD 0 = h := ⟨_, rfl⟩
            rw [hhd] at hR hh
            have HH := Lib.hid hh
            have hq : h / 2 + h % 2 < 18446744073709551616 := by unfold Word at hh; omega
            have HHD := Lib.hid hhd
            have HRD := Lib.hid hrd
            have HRR := Lib.hid hR
            unfold Word at hh
            clear hhd hrd hword hR
            go_wp2
            go_loop [75, 9] (fun t u => ∃ j : Nat, j ≤ H.length ∧ t = .int .i64 j ∧ ((j = 0 ∧ u = .int .u64 0) ∨ (0 < j ∧ u = .int .u64 (h : Int)))) (fun t _ => H.length - (intOf t).toNat)
            case atStart => exact ⟨0, Nat.zero_le _, rfl, .inl ⟨rfl, rfl⟩⟩
            case round =>
              obtain ⟨j, hj, rfl, hu⟩ := hrel
              by_cases hlt : j < H.length
              · obtain rfl : j = 0 := by omega
                obtain rfl := (hu.resolve_right (by omega)).2
                obtain ⟨b, off, rfl, _, hc⟩ := HRD.out.2 hlt
                have c0 := hc 0 _ (show (U H)[0]? = some (.int .u64 (h : Int)) by have := HHD.out; cases H with | nil => simp at hlt | cons a t => simp at this; simp [U, this])
                clear hc hu
                rw [Nat.add_zero] at c0
                go_wp2
                go_round
                case rel => exact ⟨1, by omega, by go_num, .inr ⟨by omega, rfl⟩⟩
                case measure => simp [intOf]; omega
              · have hjh : j = H.length := by omega
                have hu3 : u9 = .int .u64 (h : Int) := by
                  rcases hu with ⟨h0, e⟩ | ⟨_, e⟩
                  · have h5 : H = [] := by cases H with | nil => rfl | cons a t => simp at hjh; omega
                    have h6 := HHD.out
                    rw [h5] at h6
                    rw [e, ← h6]
                    rfl
                  · exact e
                subst hu3
                clear hu hlt hj HHD HRD
                obtain ⟨lb, hlb⟩ : ∃ lb, lowX x = lb := ⟨_, rfl⟩
                have hRR := HRR.out
                rw [hlb] at hRR
                subst hRR
                rw [hlb]
                clear hlb
                have ht := HT.out
                cases lb
                all_goals go_wp2_with (first | (go_at_call 153; refine (signed_int (h / 2 + h % 2) _ (by omega) hq _ _).mono ?_; rintro e w1 ⟨rfl, rfl⟩))
                all_goals go_returns
                all_goals first | exact ⟨rfl, HB.out⟩ | (refine ⟨?_, HB.out⟩; simp_all)
theorem dec_Power (x n : Int) (hx : Is64 x) (hn : Is64 n) (w : World) : Calls Tryz.prog 70 #[.int .i64 x, .int .i64 n] w fun e w' => e = .returned (.tuple #[.int .i64 (powX x n).1, .int .i64 (powX x n).2]) ∧ Below w.heap.size w w' := by
  by_cases hm : x = minI
  · have e : powX x n = (0, 2) := if_pos hm
    have k1 : (x != minI) = false := by simp [hm]
    rw [e]
    clear hx hm e
    go_enter Tryz.func70, Tryz.ntmps70
    go_wp2_with (first | (go_at_call 102; refine (dec_May _ _).mono ?_; rintro e w1 ⟨rfl, rfl⟩))
    go_returns
    exact ⟨rfl, (by (with_reducible repeat' (first | exact .refl _ _ | assumption | refine bmP ?_ ?_ | refine baP ?_ _ ?_ | refine .drew ?_ | refine .setCell ?_ ?_ _ | refine bdP ?_ _)) <;> go_size)⟩
  · have k1 : (x != minI) = true := by simp [hm]
    by_cases hr : n < -64 ∨ 64 < n
    · have e : powX x n = (0, 8) := by unfold powX; rw [if_neg hm, if_pos hr]
      rw [e]
      by_cases hlo : n < -64
      · clear hx hm e hr
        go_enter Tryz.func70, Tryz.ntmps70
        go_wp2_with (first | (go_at_call 102; refine (dec_May _ _).mono ?_; rintro e w1 ⟨rfl, rfl⟩))
        go_returns
        exact ⟨rfl, (by (with_reducible repeat' (first | exact .refl _ _ | assumption | refine bmP ?_ ?_ | refine baP ?_ _ ?_ | refine .drew ?_ | refine .setCell ?_ ?_ _ | refine bdP ?_ _)) <;> go_size)⟩
      · have hhi : 64 < n := by omega
        clear hx hm e hr
        go_enter Tryz.func70, Tryz.ntmps70
        go_wp2_with (first | (go_at_call 102; refine (dec_May _ _).mono ?_; rintro e w1 ⟨rfl, rfl⟩))
        go_returns
        exact ⟨rfl, (by (with_reducible repeat' (first | exact .refl _ _ | assumption | refine bmP ?_ ?_ | refine baP ?_ _ ?_ | refine .drew ?_ | refine .setCell ?_ ?_ _ | refine bdP ?_ _)) <;> go_size)⟩
    · have hlo : ¬ n < -64 := by omega
      have hhi : ¬ 64 < n := by omega
      by_cases h0 : n = 0
      · have e : powX x n = (10000, 0) := by unfold powX; rw [if_neg hm, if_neg hr, if_pos h0]
        rw [e]
        clear hx hm e hr
        go_enter Tryz.func70, Tryz.ntmps70
        go_wp2_with (first | (go_at_call 102; refine (dec_May _ _).mono ?_; rintro e w1 ⟨rfl, rfl⟩))
        go_returns
        exact ⟨rfl, (by (with_reducible repeat' (first | exact .refl _ _ | assumption | refine bmP ?_ ?_ | refine baP ?_ _ ?_ | refine .drew ?_ | refine .setCell ?_ ?_ _ | refine bdP ?_ _)) <;> go_size)⟩
      · by_cases hz : x = 0
        · subst hz
          by_cases hneg : n < 0
          · have e : powX 0 n = (0, 3) := by unfold powX; rw [if_neg hm, if_neg hr, if_neg h0, if_pos ⟨rfl, hneg⟩]
            rw [e]
            clear hx hm e hr
            go_enter Tryz.func70, Tryz.ntmps70
            go_wp2_with (first | (go_at_call 102; refine (dec_May _ _).mono ?_; rintro e w1 ⟨rfl, rfl⟩))
            go_returns
            exact ⟨rfl, (by (with_reducible repeat' (first | exact .refl _ _ | assumption | refine bmP ?_ ?_ | refine baP ?_ _ ?_ | refine .drew ?_ | refine .setCell ?_ ?_ _ | refine bdP ?_ _)) <;> go_size)⟩
          · exact power_nought n (by omega) (by omega) w
        · by_cases hneg : n < 0
          · exact power_down x n hx hm hz hneg (by omega) w
          · exact power_up x n hx hm hz (by omega) (by omega) w
end Go.Proofs.YtegbhdeaicgpkaaGreatDoor
