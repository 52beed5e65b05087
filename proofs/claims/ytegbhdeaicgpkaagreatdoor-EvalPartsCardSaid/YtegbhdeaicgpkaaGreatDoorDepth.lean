/-
  refs.depth, refs.Check at a formula of cells, values and operations of two: what they answer.
-/
import Derived.Test.YtegbhdeaicgpkaaGreatDoorStk
namespace Go.Proofs.YtegbhdeaicgpkaaGreatDoor
open Go Go.RowKit

def pcells (p : Int × Int) : List Value := [.int .i64 p.1, .int .i64 p.2, .bool false]
def pnew (k : Int) (a b : Int × Int) : Int × Int := (max (insG a.1 a.2 (lev k)) (insG b.1 b.2 (lev k + 1)), lev k)
def pstep (l : List (Int × Int)) (x : Nd) : List (Int × Int) := if x.kind = 4 then l.take (l.length - 2) ++ [pnew x.op (l.getD (l.length - 2) (0, 0)) (l.getD (l.length - 1) (0, 0))] else l ++ [(0, 7)]
def stkP (xs : List Nd) : List (Int × Int) := xs.foldl pstep []
theorem stkP_take (xs : List Nd) (j : Nat) (x : Nd) (hx : xs[j]? = some x) : stkP (xs.take (j + 1)) = pstep (stkP (xs.take j)) x := by
  rw [stk_take1 hx]
  simp [stkP]
/-- A node that may be: a cell, a value, an operation of two. -/
def OkN (x : Nd) : Prop := (∃ r c, x = Nd.cell r c ∧ 1 ≤ r ∧ r ≤ 4096 ∧ 1 ≤ c ∧ c ≤ 256) ∨ (∃ v, x = Nd.value v ∧ mayG v = true ∧ v.tag ≠ 0 ∧ 0 ≤ v.num ∧ v.code ≠ 1) ∨ ∃ k, x = Nd.opn k ∧ 3 ≤ k ∧ k ≤ 13
/-- A formula of such nodes: each operation finds two parts. -/
def Wf (xs : List Nd) : Prop := ∀ (j : Nat) (x : Nd), xs[j]? = some x → OkN x ∧ (x.kind = 4 → 2 ≤ (stkP (xs.take j)).length) ∧ ∀ p ∈ stkP (xs.take j), 0 ≤ p.1 ∧ p.1 ≤ 1000
theorem okN_op {x : Nd} (h : OkN x) (h4 : x.kind = 4) : ∃ k, x = Nd.opn k ∧ 3 ≤ k ∧ k ≤ 13 := by
  rcases h with ⟨r, q, rfl, _⟩ | ⟨v, rfl, _⟩ | h
  · cases h4
  · cases h4
  · exact h
theorem okN_push {x : Nd} (h : OkN x) (h4 : x.kind ≠ 4) : (∀ w : World, Calls Tryz.prog 196 #[x.val] w fun e w' => e = .returned (.bool true) ∧ Below w.heap.size w w') ∧ (x.kind == 3) = false ∧ (x.kind == 5) = false := by
  rcases h with ⟨r, q, rfl, h1, h2, h3, h4⟩ | ⟨v, rfl, h1, h2, h3, h4⟩ | ⟨k, rfl, _⟩
  · exact ⟨fun w => may_cell r q h1 h2 h3 h4 w, rfl, rfl⟩
  · exact ⟨fun w => may_value v h1 h2 h3 h4 w, rfl, rfl⟩
  · exact absurd rfl h4
theorem Nd.cells_length (x : Nd) : x.cells.length = 15 := rfl
theorem pcells_length (p : Int × Int) : (pcells p).length = 3 := rfl
theorem info_P : (Tryz.prog.info? 240).map (fun i => (i.zero, i.size, i.bytes)) = some (some (.agg #[.int .i64 0, .int .i64 0, .bool false]), 3, 24) := by kernel_rfl
theorem pcells_one (p : Int × Int) : ∀ u ∈ pcells p, u.oneCell' = true := by
  intro u hu
  simp only [pcells, List.mem_cons, List.not_mem_nil, or_false] at hu
  rcases hu with rfl | rfl | rfl <;> rfl
theorem pstep_nop (l : List (Int × Int)) (x : Nd) (h : x.kind ≠ 4) : pstep l x = l ++ [(0, 7)] := if_neg h
theorem pstep_op (pre : List (Int × Int)) (a b : Int × Int) (k : Int) : pstep (pre ++ [a, b]) (Nd.opn k) = pre ++ [pnew k a b] := by
  have e : (pre ++ [a, b]).length = pre.length + 2 := by simp
  unfold pstep
  rw [if_pos (show (Nd.opn k).kind = 4 from rfl), e]
  simp [Nd.opn]
theorem lev_wrap (k : Int) : IntKind.i64.wrap (lev k + 1) = lev k + 1 := by
  have h : 1 ≤ lev k ∧ lev k ≤ 6 := by unfold lev; (repeat' split) <;> omega
  rw [IntKind.wrap_i64]
  omega
theorem max_r {a b : Int} (h : a < b) : max a b = b := by omega
theorem max_l {a b : Int} (h : b ≤ a) : max a b = a := by omega
theorem two_last {α : Type} (l : List α) (h : 2 ≤ l.length) : ∃ pre a b, l = pre ++ [a, b] := by
  refine ⟨l.take (l.length - 2), l[l.length - 2], l[l.length - 1], ?_⟩
  apply List.ext_getElem?
  intro i
  by_cases h1 : i < l.length - 2
  · rw [List.getElem?_append_left (by simp; omega), List.getElem?_take, if_pos h1]
  · rw [List.getElem?_append_right (by simp; omega)]
    have e : (l.take (l.length - 2)).length = l.length - 2 := by simp
    rw [e]
    by_cases h2 : i = l.length - 2
    · subst h2; simp
    · by_cases h3 : i = l.length - 1
      · subst h3
        have e2 : l.length - 1 - (l.length - 2) = 1 := by omega
        rw [e2]; simp
      · rw [List.getElem?_eq_none (by omega), List.getElem?_eq_none (by simp; omega)]

theorem pstep_le (l : List (Int × Int)) (x : Nd) : (pstep l x).length ≤ l.length + 1 := by
  unfold pstep
  split <;> simp <;> omega
theorem stkP_le (xs : List Nd) (j : Nat) : (stkP (xs.take j)).length ≤ j := by
  induction j with
  | zero => simp [stkP]
  | succ j ih =>
    cases hx : xs[j]? with
    | none =>
      have e : xs.take (j + 1) = xs.take j := by rw [List.take_add_one, hx]; simp
      rw [e]
      omega
    | some x =>
      rw [stkP_take xs j x hx]
      have := pstep_le (stkP (xs.take j)) x
      omega

set_option maxRecDepth 100000 in
set_option maxHeartbeats 4000000 in
theorem refs_depth (xs : List Nd) (A : Option Addr) (n c B : Nat) (w : World) (hr : Reads w B 15 A n (flatC Nd.cells xs)) (h1 : 1 ≤ n) (h2 : n ≤ 1024) (hw : Wf xs) (d b : Int) (hs : stkP xs = [(d, b)]) :
    Calls Tryz.prog 132 #[.agg #[.slice A n c]] w fun e w' => e = .returned (.tuple #[.int .i64 d, .bool true]) ∧ Below w.heap.size w w' := by
  have hlen : xs.length = n := by
    have := hr.1
    rw [flatC_length Nd.cells 15 Nd.cells_length] at this
    omega
  obtain ⟨bn, off, rfl, _, hc⟩ := hr.2 (by omega)
  have HC := Lib.hid hc
  have HW := Lib.hid hw
  have HS := Lib.hid hs
  obtain ⟨i0, hi, hz0, hz1, hz2⟩ := info_parts info_P
  clear hr hc hw hs
  go_enter Tryz.func132, Tryz.ntmps132
  go_wp2
  go_loopw [28, 4] (fun t28 t4 wr => ∃ j : Nat, j ≤ n ∧ t28 = .int .i64 j ∧ StkRel (w.alloc (.cells #[.slice (some ⟨bn, off, none⟩) n c] 65)) wr 240 3 t4 (stkP (xs.take j)).length (flatC pcells (stkP (xs.take j)))) (fun t _ _ => n - (intOf t).toNat)
  case atStart => exact ⟨0, Nat.zero_le _, rfl, Below.refl _ _, World.ownsRow_nil _ _ _ _⟩
  case round =>
    obtain ⟨j, hj, rfl, hR⟩ := hrel
    by_cases hlt : j < n
    · obtain ⟨x, hx⟩ : ∃ x, xs[j]? = some x := ⟨_, List.getElem?_eq_getElem (show j < xs.length by omega)⟩
      have hcell : ∀ i u, x.cells[i]? = some u → wr.cell? ⟨bn, off + (j * 15 + i), none⟩ = some u := fun i u hu => by
        have h1 := HC.out _ u (flatC_at Nd.cells 15 Nd.cells_length xs j x hx i u hu)
        have h2 : bn < w.heap.size := World.block_lt_of_cell? w _ h1
        exact (hR.1.cell (p := ⟨bn, _, none⟩) (by simp; omega)).trans ((World.cell?_alloc_lt w _ _ h2).trans h1)
      obtain ⟨hok, hop, hdp⟩ := HW.out j x hx
      have hst := stkP_take xs j x hx
      have hlp := stkP_le xs j
      obtain ⟨ps, hps⟩ : ∃ ps, ps = stkP (xs.take j) := ⟨_, rfl⟩
      rw [← hps] at hR hst hop hdp hlp
      clear hps
      by_cases hk4 : x.kind = 4
      · obtain ⟨k, rfl, hk1, hk2⟩ := okN_op hok hk4
        obtain ⟨pre, a, b', rfl⟩ := two_last ps (hop rfl)
        rw [pstep_op] at hst
        have hst := Lib.hid hst
        obtain ⟨m, hm⟩ : ∃ m, m = pre.length := ⟨_, rfl⟩
        have hl2 : (pre ++ [a, b']).length = m + 2 := by rw [hm]; simp
        rw [hl2] at hR hlp
        obtain ⟨g, cc, rfl, hcap, hcm, hbg, hgl, hcl, hfz⟩ := stk_form hR.2 (by omega)
        have ha : (pre ++ [a, b'])[m]? = some a := by rw [hm]; simp
        have hb' : (pre ++ [a, b'])[m + 1]? = some b' := by rw [hm]; simp
        obtain ⟨ha0, ha1⟩ := hdp a (by simp)
        obtain ⟨hb0, hb1⟩ := hdp b' (by simp)
        have e0 := hcl _ _ (flatC_at pcells 3 pcells_length _ m a ha 0 _ rfl)
        have e1 := hcl _ _ (flatC_at pcells 3 pcells_length _ m a ha 1 _ rfl)
        have e2 := hcl _ _ (flatC_at pcells 3 pcells_length _ m a ha 2 _ rfl)
        have f0 := hcl _ _ (flatC_at pcells 3 pcells_length _ (m + 1) b' hb' 0 _ rfl)
        have f1 := hcl _ _ (flatC_at pcells 3 pcells_length _ (m + 1) b' hb' 1 _ rfl)
        have f2 := hcl _ _ (flatC_at pcells 3 pcells_length _ (m + 1) b' hb' 2 _ rfl)
        have c0 := hcell 0 _ rfl
        have c1 := hcell 1 _ rfl
        have c2 := hcell 2 _ rfl
        have c3 := hcell 3 _ rfl
        have c4 := hcell 4 _ rfl
        have c5 := hcell 5 _ rfl
        have c6 := hcell 6 _ rfl
        have c7 := hcell 7 _ rfl
        have c8 := hcell 8 _ rfl
        have c9 := hcell 9 _ rfl
        have c10 := hcell 10 _ rfl
        have c11 := hcell 11 _ rfl
        have c12 := hcell 12 _ rfl
        have c13 := hcell 13 _ rfl
        have c14 := hcell 14 _ rfl
        simp only [← Nat.add_assoc, Nat.add_zero] at c0 c1 c2 c3 c4 c5 c6 c7 c8 c9 c10 c11 c12 c13 c14
        simp only [Nat.add_zero] at e0 f0
        simp only [Nd.opn, V0] at c0 c1 c2 c3 c4 c5 c6 c7 c12
        have HP := Lib.hid (show StkRel (w.alloc (.cells #[.slice (some ⟨bn, off, none⟩) n c] 65)) wr 240 3 (.slice (some ⟨g, 0, none⟩) m cc) m (flatC pcells pre) from ⟨hR.1, by have h := hR.2; rw [hm] at h ⊢; exact stk_pop2 pcells pcells_length pre a b' h⟩)
        have hlv : IntKind.i64.wrap (lev k + 1) = lev k + 1 := lev_wrap k
        have kk1 : (k == 1) = false := by simp; omega
        have kk2 : (k == 2) = false := by simp; omega
        have b1 := Lib.hid hk1; have b2 := Lib.hid hk2
        have g1 := Lib.hid ha0; have g2 := Lib.hid ha1; have g3 := Lib.hid hb0; have g4 := Lib.hid hb1
        have HM := Lib.hid hm
        have hw0 : IntKind.i64.wrap (m : Int) = m := by rw [IntKind.wrap_i64]; omega
        have hw1 : IntKind.i64.wrap ((m : Int) + 1) = (m : Int) + 1 := by rw [IntKind.wrap_i64]; omega
        have hw2 : IntKind.i64.wrap ((m : Int) + 2 - 2) = (m : Int) := by rw [IntKind.wrap_i64]; omega
        have hw3 : IntKind.i64.wrap ((m : Int) + 2 - 1) = (m : Int) + 1 := by rw [IntKind.wrap_i64]; omega
        have hw4 : (0 : Int) ≤ (m : Int) := by omega
        have hw5 : (m : Int) < (m : Int) + 2 := by omega
        have hw6 : (m : Int) + 1 < (m : Int) + 2 := by omega
        have hw7 : (0 : Int) ≤ (m : Int) + 1 := by omega
        have hw8 : ((m : Int) + 1).toNat = m + 1 := by omega
        clear hcell hR hop hdp hx hm ha hb' hcl hk1 hk2 ha0 ha1 hb0 hb1 hok hk4
        go_wp2_with (first | (go_at_call 196; refine (may_op k (by have := b1.out; omega) b2.out _).mono ?_; rintro e w1 ⟨rfl, hb⟩; obtain ⟨l, m0, rfl⟩ := more_of_below hb; clear hb))
        go_upto_region 19 with fail
        go_cut [8, 9] (fun s8 s9 wx => ∃ p q : Nat, s8 = .pointer (some ⟨p, 0, none⟩) ∧ s9 = .pointer (some ⟨q, 0, none⟩) ∧ AtB wx p (pcells a) ∧ AtB wx q (pcells b') ∧ wx.cell? ⟨wr.heap.size, 12, none⟩ = some (.int .i64 k) ∧ Below wr.heap.size wr wx)
        case first =>
          go_region_held3 (fun w' => w'.cell? ⟨g, m * 3, none⟩ = some (.int .i64 a.1) ∧ w'.cell? ⟨g, m * 3 + 1, none⟩ = some (.int .i64 a.2) ∧ w'.cell? ⟨g, m * 3 + 2, none⟩ = some (.bool false) ∧ w'.cell? ⟨g, (m + 1) * 3, none⟩ = some (.int .i64 b'.1) ∧ w'.cell? ⟨g, (m + 1) * 3 + 1, none⟩ = some (.int .i64 b'.2) ∧ w'.cell? ⟨g, (m + 1) * 3 + 2, none⟩ = some (.bool false))
            (first | ((try dsimp only); refine ⟨?_, ?_, ?_, ?_, ?_, ?_⟩ <;> (repeat (first | with_reducible assumption | with_reducible refine cell_drewJ ?_ | with_reducible refine cell_drewNJ ?_ _ | with_reducible refine cell_allocJ ?_ _ | with_reducible refine cell_moreJ ?_ _ _ | (with_reducible refine cell_setJ ?_ (by first | omega | (simp; omega)))))))
            (first | fail)
          all_goals (go_wp2_with fail; go_meet; exact ⟨_, _, rfl, rfl, (by first | exact AtB.new (by simp only [World.size_alloc, more_size]) | exact AtB.allocI (AtB.new (by simp only [World.size_alloc, more_size])) _), (by first | exact AtB.new (by simp only [World.size_alloc, more_size]) | exact AtB.allocI (AtB.new (by simp only [World.size_alloc, more_size])) _), (cell_allocJ (cell_allocJ (cell_moreJ ((AtB.new rfl) 12 _ rfl) _ _) _) _), (by repeat (first | with_reducible exact Below.refl _ _ | with_reducible assumption | with_reducible refine below_more' ?_ (by go_size) | with_reducible refine bel_alloc ?_ _ (by go_size) | with_reducible refine Below.drew ?_ | with_reducible refine Below.setCell ?_ (by go_size) _ | with_reducible refine below_drewN ?_ _))⟩)
        case rest =>
          obtain ⟨p, q, rfl, rfl, hA, hQ, hk12, hBX⟩ := hcut
          have p0 := hA 0 _ rfl
          have p1 := hA 1 _ rfl
          have p2 := hA 2 _ rfl
          have q0 := hQ 0 _ rfl
          have q1 := hQ 1 _ rfl
          have q2 := hQ 2 _ rfl
          clear hA hQ c0 c1 c2 c3 c4 c5 c6 c7 c8 c9 c10 c11 c12 c13 c14 e0 e1 e2 f0 f1 f2
          have lp := cell_ltJ p0
          have lq := cell_ltJ q0
          have lk := cell_ltJ hk12
          have hsx := hBX.size
          go_wp2_with (first | (go_at_call 197; refine (refs_level k (by have := b1.out; omega) b2.out _).mono ?_; rintro e w1 ⟨rfl, rfl⟩) | (go_at_call 198; refine (part_inside _ _ _ (by first | exact g1.out | exact g3.out) (by first | (have := g2.out; omega) | (have := g4.out; omega)) _).mono ?_; rintro e w1 ⟨rfl, hb⟩; obtain ⟨l5, m5, rfl⟩ := more_of_below hb; clear hb) | (at_builtin; refine wpList_append_own _ rfl _ _ 237 rfl (w.alloc (.cells #[.slice (some ⟨bn, off, none⟩) n c] 65)).heap.size 240 i0 _ 3 24 Tryz.underlying237 hi hz0 hz1 hz2 rfl (by decide) _ _ _ rfl (stk_below (stk_below HP.out.2 hBX) (by repeat (first | with_reducible exact Below.refl _ _ | with_reducible assumption | with_reducible refine below_more' ?_ (by go_size) | with_reducible refine bel_alloc ?_ _ (by go_size) | with_reducible refine Below.drew ?_ | with_reducible refine Below.setCell ?_ (by go_size) _ | with_reducible refine below_drewN ?_ _))) _ 1 1 (pcells (pnew k a b')) rfl rfl ?_ ?_ ?_ ?_ ?_ ?_))
          all_goals first
            | exact pcells_one _
            | (simp only [maxLen]; omega)
            | omega
            | (have h1 := HP.out.1.size; simp at h1 ⊢; omega)
            | (intro j u hu; rw [show pcells (pnew k a b') = [.int .i64 (pnew k a b').1, .int .i64 (lev k), .bool false] from rfl, show (pnew k a b').1 = _ from by unfold pnew; exact max_r ‹_›] at hu; exact hu)
            | (intro j u hu; rw [show pcells (pnew k a b') = [.int .i64 (pnew k a b').1, .int .i64 (lev k), .bool false] from rfl, show (pnew k a b').1 = _ from by unfold pnew; exact max_l ‹_›] at hu; exact hu)
            | skip
          all_goals
            intro v' w1 hown' hgrow _
            have R := StkRel.step HP.out (by repeat (first | with_reducible exact Below.refl _ _ | with_reducible assumption | with_reducible refine below_more' ?_ (by go_size) | with_reducible refine bel_alloc ?_ _ (by go_size) | with_reducible refine Below.drew ?_ | with_reducible refine Below.setCell ?_ (by go_size) _ | with_reducible refine below_drewN ?_ _)) (show w1.ownsRow (w.alloc (.cells #[.slice (some ⟨bn, off, none⟩) n c] 65)).heap.size 240 3 v' (m + 1) (flatC pcells pre ++ pcells (pnew k a b')) from by simpa using hown') hgrow
            have HR' := Lib.hid R
            clear hown' hgrow R HP p0 p1 p2 q0 q1 q2 hk12 hBX
            go_wp2
            go_roundw
            case rel => exact ⟨j + 1, by omega, by go_num, by rw [hst.out, flatC_append, List.length_append, ← HM.out]; simpa [flatC] using HR'.out⟩
            case measure => simp [intOf]; omega
      · obtain ⟨hmay, kk3, kk5⟩ := okN_push hok hk4
        rw [pstep_nop _ _ hk4] at hst
        have hst := Lib.hid hst
        have kk4 : (x.kind == 4) = false := by simp [hk4]
        clear hop hdp hx hok
        have c0 := hcell 0 _ rfl
        have c1 := hcell 1 _ rfl
        have c2 := hcell 2 _ rfl
        have c3 := hcell 3 _ rfl
        have c4 := hcell 4 _ rfl
        have c5 := hcell 5 _ rfl
        have c6 := hcell 6 _ rfl
        have c7 := hcell 7 _ rfl
        have c8 := hcell 8 _ rfl
        have c9 := hcell 9 _ rfl
        have c10 := hcell 10 _ rfl
        have c11 := hcell 11 _ rfl
        have c12 := hcell 12 _ rfl
        have c13 := hcell 13 _ rfl
        have c14 := hcell 14 _ rfl
        simp only [← Nat.add_assoc, Nat.add_zero] at c0 c1 c2 c3 c4 c5 c6 c7 c8 c9 c10 c11 c12 c13 c14
        clear hcell hk4
        have HR := Lib.hid hR
        clear hR
        have HMY := Lib.hid hmay
        clear hmay
        go_wp2_with (first | (go_at_call 196; refine (HMY.out _).mono ?_; rintro e w1 ⟨rfl, hb⟩; obtain ⟨l, m, rfl⟩ := more_of_below hb; clear hb) | (at_builtin; refine wpList_append_own _ rfl _ _ 237 rfl (w.alloc (.cells #[.slice (some ⟨bn, off, none⟩) n c] 65)).heap.size 240 i0 _ 3 24 Tryz.underlying237 hi hz0 hz1 hz2 rfl (by decide) _ _ _ rfl (stk_below HR.out.2 (by repeat (first | with_reducible exact Below.refl _ _ | with_reducible assumption | with_reducible refine below_more' ?_ (by go_size) | with_reducible refine bel_alloc ?_ _ (by go_size) | with_reducible refine Below.drew ?_ | with_reducible refine Below.setCell ?_ (by go_size) _ | with_reducible refine below_drewN ?_ _))) _ 1 1 (pcells (0, 7)) rfl rfl ?_ ?_ ?_ ?_ ?_ ?_))
        · exact fun i u hu => stk_fresh (by simp) i u hu
        · exact pcells_one _
        · simp only [maxLen]; omega
        · omega
        · have h1 := HR.out.1.size
          simp at h1 ⊢
          omega
        · intro v' w1 hown' hgrow _
          have R := StkRel.step HR.out (by repeat (first | with_reducible exact Below.refl _ _ | with_reducible assumption | with_reducible refine below_more' ?_ (by go_size) | with_reducible refine bel_alloc ?_ _ (by go_size) | with_reducible refine Below.drew ?_ | with_reducible refine Below.setCell ?_ (by go_size) _ | with_reducible refine below_drewN ?_ _)) (show w1.ownsRow (w.alloc (.cells #[.slice (some ⟨bn, off, none⟩) n c] 65)).heap.size 240 3 v' (ps.length + 1) (flatC pcells ps ++ pcells (0, 7)) from by simpa using hown') hgrow
          have HR' := Lib.hid R
          clear hown' hgrow R HR c0 c1 c2 c3 c4 c5 c6 c7 c8 c9 c10 c11 c12 c13 c14
          go_wp2
          go_roundw
          case rel => exact ⟨j + 1, by omega, by go_num, by rw [hst.out, flatC_append, List.length_append]; simpa [flatC] using HR'.out⟩
          case measure => simp [intOf]; omega
    · obtain rfl : j = n := by omega
      rw [List.take_of_length_le (by omega), HS.out] at hR
      obtain ⟨g, cc, rfl, hcap, hcm, hbg, hgl, hcl, hfz⟩ := stk_form hR.2 (by simp)
      have e0 : wr.cell? ⟨g, 0, none⟩ = some (.int .i64 d) := hcl 0 _ rfl
      have e1 : wr.cell? ⟨g, 1, none⟩ = some (.int .i64 b) := hcl 1 _ rfl
      have e2 : wr.cell? ⟨g, 2, none⟩ = some (.bool false) := hcl 2 _ rfl
      have hB := hR.1
      have hB2 : Below w.heap.size w wr := Below.trans (show Below w.heap.size w (w.alloc (.cells #[.slice (some ⟨bn, off, none⟩) j c] 65)) from (by repeat (first | with_reducible exact Below.refl _ _ | with_reducible assumption | with_reducible refine below_more' ?_ (by go_size) | with_reducible refine bel_alloc ?_ _ (by go_size) | with_reducible refine Below.drew ?_ | with_reducible refine Below.setCell ?_ (by go_size) _ | with_reducible refine below_drewN ?_ _))) (hB.mono (by simp))
      clear hR hcl hB
      go_wp2
      go_ret2
      exact ⟨rfl, hB2⟩
end Go.Proofs.YtegbhdeaicgpkaaGreatDoor
