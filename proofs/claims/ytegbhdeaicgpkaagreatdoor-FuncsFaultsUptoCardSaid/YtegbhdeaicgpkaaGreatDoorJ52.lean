/-
  Parts of a proof: ArgsR, ArgsRA.
-/
import Derived.Test.YtegbhdeaicgpkaaGreatDoorJ17
import Derived.Test.YtegbhdeaicgpkaaGreatDoorJ51
import Derived.Test.YtegbhdeaicgpkaaGreatDoorJ04
set_option linter.all false
namespace Go.Proofs.YtegbhdeaicgpkaaGreatDoor
open Go Go.RowKit
theorem ref03_within (x l m : Int) (w : World) : Calls Tryz.prog 195 #[.int .i64 x, .int .i64 l, .int .i64 m] w fun e w' => e = .returned (.bool (decide (l ≤ x) && decide (x ≤ m))) ∧ Below w.heap.size w w' := by
  go_enter Tryz.func195, Tryz.ntmps195
  go_wp2
  all_goals go_ret
  all_goals refine ⟨congrArg (fun b => Ending.returned (Value.bool b)) ?_, (by (with_reducible repeat' (first | exact .refl _ _ | assumption | refine bmP ?_ ?_ | refine baP ?_ _ ?_ | refine .drew ?_ | refine .setCell ?_ ?_ _ | refine bdP ?_ _)) <;> go_size)⟩
  all_goals simp_all
  all_goals omega
theorem ref03_May (r c : Int) (w : World) : Calls Tryz.prog 194 #[.agg #[.int .i64 r, .int .i64 c]] w fun e w' => e = .returned (.bool (cellB r c)) ∧ Below w.heap.size w w' := by
  go_enter Tryz.func194, Tryz.ntmps194
  go_wp2_with (first | (go_at_call 195; refine (ref03_within _ _ _ _).mono ?_; rintro e w1 ⟨rfl, hb⟩; obtain ⟨l1, n1, rfl⟩ := more_of_below hb; clear hb))
  all_goals go_returns
  all_goals refine ⟨congrArg (fun b => Ending.returned (Value.bool b)) (?_ : _ = cellB _ _), (by (with_reducible repeat' (first | exact .refl _ _ | assumption | refine bmP ?_ ?_ | refine baP ?_ _ ?_ | refine .drew ?_ | refine .setCell ?_ ?_ _ | refine bdP ?_ _)) <;> go_size)⟩
  all_goals simp_all [cellB]
  all_goals omega
theorem ref03_MayRect (t l b r : Int) (w : World) : Calls Tryz.prog 129 #[.agg #[.int .i64 t, .int .i64 l, .int .i64 b, .int .i64 r]] w fun e w' => e = .returned (.bool (rectB t l b r)) ∧ Below w.heap.size w w' := by
  obtain ⟨c1, h1⟩ : ∃ c, cellB t l = c := ⟨_, rfl⟩
  obtain ⟨c2, h2⟩ : ∃ c, cellB b r = c := ⟨_, rfl⟩
  have H1 := Lib.hid h1
  have H2 := Lib.hid h2
  have e : rectB t l b r = ((c1 && c2) && (decide (t ≤ b) && decide (l ≤ r))) := by unfold rectB; rw [h1, h2]
  rw [e]
  clear h1 h2 e
  cases c1 <;> cases c2
  all_goals go_enter Tryz.func129, Tryz.ntmps129
  all_goals go_wp2_with (first | (go_at_call_of 194 (Value.agg #[.int .i64 t, .int .i64 l]); refine (ref03_May t l _).mono ?_; rw [H1.out]; rintro e w1 ⟨rfl, hb⟩; obtain ⟨l3, n3, rfl⟩ := more_of_below hb; clear hb) | (go_at_call_of 194 (Value.agg #[.int .i64 b, .int .i64 r]); refine (ref03_May b r _).mono ?_; rw [H2.out]; rintro e w1 ⟨rfl, hb⟩; obtain ⟨l4, n4, rfl⟩ := more_of_below hb; clear hb))
  all_goals go_returns
  all_goals refine ⟨congrArg (fun b => Ending.returned (Value.bool b)) ?_, (by (with_reducible repeat' (first | exact .refl _ _ | assumption | refine bmP ?_ ?_ | refine baP ?_ _ ?_ | refine .drew ?_ | refine .setCell ?_ ?_ _ | refine bdP ?_ _)) <;> go_size)⟩
  all_goals simp_all
  all_goals omega
theorem ref03_In (t l b r row col : Int) (w : World) : Calls Tryz.prog 130 #[.agg #[.int .i64 t, .int .i64 l, .int .i64 b, .int .i64 r], .agg #[.int .i64 row, .int .i64 col]] w fun e w' => e = .returned (.bool (inB t l b r row col)) ∧ Below w.heap.size w w' := by
  go_enter Tryz.func130, Tryz.ntmps130
  go_wp2_with (first | (go_at_call 195; refine (ref03_within _ _ _ _).mono ?_; rintro e w1 ⟨rfl, hb⟩; obtain ⟨l1, n1, rfl⟩ := more_of_below hb; clear hb))
  all_goals go_returns
  all_goals refine ⟨congrArg (fun b => Ending.returned (Value.bool b)) (?_ : _ = inB _ _ _ _ _ _), (by (with_reducible repeat' (first | exact .refl _ _ | assumption | refine bmP ?_ ?_ | refine baP ?_ _ ?_ | refine .drew ?_ | refine .setCell ?_ ?_ _ | refine bdP ?_ _)) <;> go_size)⟩
  all_goals simp_all [inB]
  all_goals omega
theorem ref03_Before (r c r' c' : Int) (w : World) : Calls Tryz.prog 131 #[.agg #[.int .i64 r, .int .i64 c], .agg #[.int .i64 r', .int .i64 c']] w fun e w' => e = .returned (.bool (befB r c r' c')) ∧ Below w.heap.size w w' := by
  go_enter Tryz.func131, Tryz.ntmps131
  go_wp2
  all_goals go_ret
  all_goals refine ⟨congrArg (fun b => Ending.returned (Value.bool b)) (?_ : _ = befB _ _ _ _), (by (with_reducible repeat' (first | exact .refl _ _ | assumption | refine bmP ?_ ?_ | refine baP ?_ _ ?_ | refine .drew ?_ | refine .setCell ?_ ?_ _ | refine bdP ?_ _)) <;> go_size)⟩
  all_goals simp_all [befB]
  all_goals omega
set_option maxRecDepth 100000 in
set_option maxHeartbeats 1000000 in
theorem ref08_may_one (a : Arg) (es : List En) (hm : a.many = false) (h64 : -9223372036854775808 ≤ a.val.num) (hE : es.length = a.n) (w : World) : Calls Tryz.prog 40 #[a.agg] w fun e w' => e = .returned (.bool (argOk a es)) ∧ Below w.heap.size w w' := by
  obtain ⟨m, v, t, l, b, r, A, n, c⟩ := a
  simp only at hm hE h64
  have H64 := Lib.hid (show -9223372036854775808 ≤ v.num from h64)
  clear h64
  subst hm
  have hq := rectEq t l b r
  obtain ⟨z, hz⟩ : ∃ z, ((decide (t = 0) && decide (l = 0)) && (decide (b = 0) && decide (r = 0))) = z := ⟨_, rfl⟩
  have e : argOk ⟨false, v, t, l, b, r, A, n, c⟩ es = ((z && decide (n = 0)) && mayG v) := by unfold argOk; rw [if_neg (show ¬ (false = true) by decide), ← hz]
  rw [e]
  rw [hz] at hq
  clear e hz hE
  unfold Arg.agg
  dsimp only
  cases z
  · go_enter Tryz.func40, Tryz.ntmps40
    go_wp2
    all_goals go_returns
    all_goals exact ⟨rfl, (by (with_reducible repeat' (first | exact .refl _ _ | assumption | refine bmP ?_ ?_ | refine baP ?_ _ ?_ | refine .drew ?_ | refine .setCell ?_ ?_ _ | refine bdP ?_ _)) <;> go_size)⟩
  · by_cases hn : n = 0
    · have hn' : ((n : Nat) : Int) = 0 := by omega
      go_enter Tryz.func40, Tryz.ntmps40
      go_wp2_with (first | (go_at_call 18; refine (ref02_May _ H64.out _).mono ?_; rintro e w1 ⟨rfl, hb⟩; obtain ⟨l1, n1, rfl⟩ := more_of_below hb; clear hb))
      all_goals go_returns
      all_goals exact ⟨by simp [hn], (by (with_reducible repeat' (first | exact .refl _ _ | assumption | refine bmP ?_ ?_ | refine baP ?_ _ ?_ | refine .drew ?_ | refine .setCell ?_ ?_ _ | refine bdP ?_ _)) <;> go_size)⟩
    · have hn' : ¬ ((n : Nat) : Int) = 0 := by omega
      go_enter Tryz.func40, Tryz.ntmps40
      go_wp2_with (first | (go_at_call 18; refine (ref02_May _ H64.out _).mono ?_; rintro e w1 ⟨rfl, hb⟩; obtain ⟨l1, n1, rfl⟩ := more_of_below hb; clear hb))
      all_goals go_returns
      all_goals exact ⟨by simp [hn], (by (with_reducible repeat' (first | exact .refl _ _ | assumption | refine bmP ?_ ?_ | refine baP ?_ _ ?_ | refine .drew ?_ | refine .setCell ?_ ?_ _ | refine bdP ?_ _)) <;> go_size)⟩
set_option maxRecDepth 100000 in
set_option maxHeartbeats 1000000 in
theorem ref08_may_many (a : Arg) (es : List En) (hm : a.many = true) (w : World) (hE : EntsAt w a es) (h64 : -9223372036854775808 ≤ a.val.num) (he : ∀ e ∈ es, -9223372036854775808 ≤ e.v.num) (hn : a.n ≤ 1000000000000) : Calls Tryz.prog 40 #[a.agg] w fun e w' => e = .returned (.bool (argOk a es)) ∧ Below w.heap.size w w' := by
  obtain ⟨m, v, t, l, b, r, A, n, c⟩ := a
  obtain ⟨hel, her⟩ := hE
  simp only at hm hel her hn
  subst hm
  have hq := neqV v.tag v.num v.str v.is v.code 0 0 ⟨#[]⟩ false 0
  obtain ⟨c1, h1⟩ : ∃ c, rectB t l b r = c := ⟨_, rfl⟩
  obtain ⟨c2, h2⟩ : ∃ c, eqB v ⟨0, 0, ⟨#[]⟩, false, 0⟩ = c := ⟨_, rfl⟩
  obtain ⟨R, h3⟩ : ∃ R, entsGo t l b r none es = R := ⟨_, rfl⟩
  have e : argOk ⟨true, v, t, l, b, r, A, n, c⟩ es = ((c1 && c2) && R) := by unfold argOk; rw [if_pos rfl, h1, h3]; rw [← h2]
  rw [e]
  have hq2 : eqB ⟨v.tag, v.num, v.str, v.is, v.code⟩ ⟨0, 0, ⟨#[]⟩, false, 0⟩ = c2 := h2
  rw [hq2] at hq
  have H1 := Lib.hid h1
  have H3 := Lib.hid h3
  have HE := Lib.hid her
  have HL := Lib.hid hel
  have H6 := Lib.hid he
  clear e h1 h2 h3 hel her hq2 he h64
  unfold Arg.agg
  dsimp only
  cases c1
  · go_enter Tryz.func40, Tryz.ntmps40
    go_wp2_with (first | (go_at_call 129; refine (ref03_MayRect t l b r _).mono ?_; rw [H1.out]; rintro e w1 ⟨rfl, hb⟩; obtain ⟨l1, n1, rfl⟩ := more_of_below hb; clear hb))
    all_goals go_returns
    all_goals exact ⟨rfl, (by (with_reducible repeat' (first | exact .refl _ _ | assumption | refine bmP ?_ ?_ | refine baP ?_ _ ?_ | refine .drew ?_ | refine .setCell ?_ ?_ _ | refine bdP ?_ _)) <;> go_size)⟩
  · cases c2
    · go_enter Tryz.func40, Tryz.ntmps40
      go_wp2_with (first | (go_at_call 129; refine (ref03_MayRect t l b r _).mono ?_; rw [H1.out]; rintro e w1 ⟨rfl, hb⟩; obtain ⟨l1, n1, rfl⟩ := more_of_below hb; clear hb))
      all_goals go_returns
      all_goals exact ⟨rfl, (by (with_reducible repeat' (first | exact .refl _ _ | assumption | refine bmP ?_ ?_ | refine baP ?_ _ ?_ | refine .drew ?_ | refine .setCell ?_ ?_ _ | refine bdP ?_ _)) <;> go_size)⟩
    · go_enter Tryz.func40, Tryz.ntmps40
      go_wp2_with (first | (go_at_call 129; refine (ref03_MayRect t l b r _).mono ?_; rw [H1.out]; rintro e w1 ⟨rfl, hb⟩; obtain ⟨l1, n1, rfl⟩ := more_of_below hb; clear hb))
      go_loopw [3] (fun s wr => ∃ j : Nat, j ≤ n ∧ s = .int .i64 j ∧ Below (w.alloc (.cells #[.bool true, .int .i64 v.tag, .int .i64 v.num, .string v.str, .bool v.is, .int .i64 v.code, .int .i64 t, .int .i64 l, .int .i64 b, .int .i64 r, .slice A n c] 42)).heap.size (w.alloc (.cells #[.bool true, .int .i64 v.tag, .int .i64 v.num, .string v.str, .bool v.is, .int .i64 v.code, .int .i64 t, .int .i64 l, .int .i64 b, .int .i64 r, .slice A n c] 42)) wr ∧ entsGo t l b r (prevE es j) (es.drop j) = R) (fun s _ => n - (intOf s).toNat)
      case atStart => exact ⟨0, Nat.zero_le _, rfl, (by (with_reducible repeat' (first | exact .refl _ _ | assumption | refine bmP ?_ ?_ | refine baP ?_ _ ?_ | refine .drew ?_ | refine .setCell ?_ ?_ _ | refine bdP ?_ _)) <;> go_size), H3.out⟩
      case round =>
        obtain ⟨j, hj, rfl, hB, hR⟩ := hrel
        have HBX := Lib.hid hB
        have hB2 : Below w.heap.size w wr := (show Below w.heap.size w (w.alloc _) from (by (with_reducible repeat' (first | exact .refl _ _ | assumption | refine bmP ?_ ?_ | refine baP ?_ _ ?_ | refine .drew ?_ | refine .setCell ?_ ?_ _ | refine bdP ?_ _)) <;> go_size)).trans (hB.mono (by simp))
        have HB := Lib.hid hB2
        have hsz := hB2.size
        have hszx := hB.size
        have hszy : w.heap.size < wr.heap.size := by simp at hszx; omega
        have pc : ∀ i u, (#[Value.bool true, .int .i64 v.tag, .int .i64 v.num, .string v.str, .bool v.is, .int .i64 v.code, .int .i64 t, .int .i64 l, .int .i64 b, .int .i64 r, .slice A n c] : Array Value).toList[i]? = some u → wr.cell? ⟨w.heap.size, i, none⟩ = some u := fun i u hu => ((AtB.new (w := w) (t := 42) rfl).below hB) i u hu
        have p6 := pc 6 _ rfl
        have p7 := pc 7 _ rfl
        have p8 := pc 8 _ rfl
        have p9 := pc 9 _ rfl
        have p10 := pc 10 _ rfl
        clear pc hB hB2
        by_cases hlt : j < n
        · obtain ⟨bk, off, rfl, hbl, hc⟩ := HE.out.2 (by omega)
          obtain ⟨x, hx⟩ : ∃ x, es[j]? = some x := ⟨_, List.getElem?_eq_getElem (show j < es.length by have := HL.out; omega)⟩
          have HX64 := Lib.hid (show -9223372036854775808 ≤ x.v.num from (H6.out x (List.mem_of_getElem? hx)))
          have hd : es.drop j = x :: es.drop (j + 1) := by
            obtain ⟨hm, hv⟩ := List.getElem?_eq_some_iff.1 hx
            rw [List.drop_eq_getElem_cons hm, hv]
          have hcell : ∀ (k : Nat) (y : En), es[k]? = some y → ∀ i u, y.cells[i]? = some u → wr.cell? ⟨bk, off + (k * 7 + i), none⟩ = some u := fun k y hy i u hu => by
            have h1 := hc _ u (flatC_at En.cells 7 (fun _ => rfl) es k y hy i u hu)
            exact (HB.out.cell (p := ⟨bk, _, none⟩) (World.block_lt_of_cell? w _ h1)).trans h1
          have hbr : bk < wr.heap.size := by omega
          have x0 := hcell j x hx 0 _ rfl
          have x1 := hcell j x hx 1 _ rfl
          have x2 := hcell j x hx 2 _ rfl
          have x3 := hcell j x hx 3 _ rfl
          have x4 := hcell j x hx 4 _ rfl
          have x5 := hcell j x hx 5 _ rfl
          have x6 := hcell j x hx 6 _ rfl
          simp only [← Nat.add_assoc, Nat.add_zero] at x0 x1 x2 x3 x4 x5 x6
          have fx : ∀ i u, x.cells[i]? = some u → (wr.alloc (.cells #[.int .i64 x.row, .int .i64 x.col, .int .i64 x.v.tag, .int .i64 x.v.num, .string x.v.str, .bool x.v.is, .int .i64 x.v.code] 46)).cell? ⟨wr.heap.size, i, none⟩ = some u := fun i u hu => (AtB.new rfl) i u hu
          have f0 := fx 0 _ rfl
          have f1 := fx 1 _ rfl
          have f2 := fx 2 _ rfl
          have f3 := fx 3 _ rfl
          have f4 := fx 4 _ rfl
          have f5 := fx 5 _ rfl
          have f6 := fx 6 _ rfl
          clear fx
          rw [hd] at hR
          have hpv : prevE es (j + 1) = some x := by unfold prevE; rw [if_neg (by omega)]; exact hx
          obtain ⟨b1, hb1⟩ : ∃ b1, inB t l b r x.row x.col = b1 := ⟨_, rfl⟩
          obtain ⟨b2, hb2⟩ : ∃ b2, mayG x.v = b2 := ⟨_, rfl⟩
          have HI := Lib.hid hb1
          have HV := Lib.hid hb2
          rcases Nat.eq_zero_or_pos j with h0 | h0
          · have hpj : prevE es j = none := by unfold prevE; rw [if_pos h0]
            rw [hpj] at hR
            have hR' : ((b1 && b2) && entsGo t l b r (some x) (es.drop (j + 1))) = R := by rw [← hb1, ← hb2]; exact hR
            have HJ0 := Lib.hid h0
            clear h0 hpj
            clear hR hb1 hb2 hc hcell hd hx
            rw [← hpv] at hR'
            clear hpv
            cases b1
            · have HRR := Lib.hid (show R = false from by rw [← hR']; rfl)
              clear hR'
              go_upto_region 9 with fail
              (refine wp_region_quiet_more (by kernel_rfl) (by kernel_rfl) ?_; (repeat (go_big_quiet_step (first | (go_at_call 130; have h := ref03_In t l b r x.row x.col; rw [HI.out] at h; exact Calls.more_of (h _))))); refine wpQuiet_nil ?_; intro _ hw1; obtain ⟨⟨lq, nq⟩, hw2⟩ := hw1; subst hw2)
              all_goals go_wp2
              all_goals go_returns
              all_goals exact ⟨by rw [HRR.out]; rfl, HB.out.trans ((show Below wr.heap.size wr _ from (by (with_reducible repeat' (first | exact .refl _ _ | assumption | refine bmP ?_ ?_ | refine baP ?_ _ ?_ | refine .drew ?_ | refine .setCell ?_ ?_ _ | refine bdP ?_ _)) <;> go_size)).mono hsz)⟩
            · cases b2
              · have HRR := Lib.hid (show R = false from by rw [← hR']; rfl)
                clear hR'
                go_upto_region 9 with fail
                (refine wp_region_quiet_more (by kernel_rfl) (by kernel_rfl) ?_; (repeat (go_big_quiet_step (first | (go_at_call 130; have h := ref03_In t l b r x.row x.col; rw [HI.out] at h; exact Calls.more_of (h _)) | (go_at_call 18; have h := ref02_May x.v HX64.out; rw [HV.out] at h; exact Calls.more_of (h _))))); refine wpQuiet_nil ?_; intro _ hw1; obtain ⟨⟨lq, nq⟩, hw2⟩ := hw1; subst hw2)
                all_goals go_wp2
                all_goals go_returns
                all_goals exact ⟨by rw [HRR.out]; rfl, HB.out.trans ((show Below wr.heap.size wr _ from (by (with_reducible repeat' (first | exact .refl _ _ | assumption | refine bmP ?_ ?_ | refine baP ?_ _ ?_ | refine .drew ?_ | refine .setCell ?_ ?_ _ | refine bdP ?_ _)) <;> go_size)).mono hsz)⟩
              · have HRR := Lib.hid (show entsGo t l b r (prevE es (j + 1)) (es.drop (j + 1)) = R from by rw [← hR']; rfl)
                clear hR'
                go_upto_region 9 with fail
                have hj2 : ((j : Nat) : Int) = 0 := by have := HJ0.out; omega
                (refine wp_region_quiet_more (by kernel_rfl) (by kernel_rfl) ?_; (repeat (go_big_quiet_step (first | (go_at_call 130; have h := ref03_In t l b r x.row x.col; rw [HI.out] at h; exact Calls.more_of (h _)) | (go_at_call 18; have h := ref02_May x.v HX64.out; rw [HV.out] at h; exact Calls.more_of (h _))))); refine wpQuiet_nil ?_; intro _ hw1; obtain ⟨⟨lq, nq⟩, hw2⟩ := hw1; subst hw2)
                all_goals go_wp2
                all_goals exact ⟨⟨j + 1, by omega, by go_num, HBX.out.trans ((show Below wr.heap.size wr _ from (by (with_reducible repeat' (first | exact .refl _ _ | assumption | refine bmP ?_ ?_ | refine baP ?_ _ ?_ | refine .drew ?_ | refine .setCell ?_ ?_ _ | refine bdP ?_ _)) <;> go_size)).mono hszx), HRR.out⟩, by simp [intOf]; omega⟩
          · obtain ⟨i, hi⟩ : ∃ i, j = i + 1 := ⟨j - 1, by omega⟩
            obtain ⟨y, hy⟩ : ∃ y, es[i]? = some y := ⟨_, List.getElem?_eq_getElem (show i < es.length by have := HL.out; omega)⟩
            have y0 := hcell i y hy 0 _ rfl
            have y1 := hcell i y hy 1 _ rfl
            simp only [← Nat.add_assoc, Nat.add_zero] at y0 y1
            have hpj : prevE es j = some y := by unfold prevE; rw [if_neg (by omega), hi]; exact hy
            obtain ⟨b3, hb3⟩ : ∃ b3, befB y.row y.col x.row x.col = b3 := ⟨_, rfl⟩
            have HF := Lib.hid hb3
            rw [hpj] at hR
            have hR' : (((b1 && b2) && b3) && entsGo t l b r (some x) (es.drop (j + 1))) = R := by rw [← hb1, ← hb2, ← hb3]; exact hR
            have hji : ((j : Nat) : Int) - 1 = (i : Int) := by omega
            have hj1 : (0 : Int) < (j : Int) := by omega
            clear hR hb1 hb2 hb3 hc hcell hd hx hy hpj hi
            rw [← hpv] at hR'
            clear hpv
            cases b1
            · have HRR := Lib.hid (show R = false from by rw [← hR']; rfl)
              clear hR'
              go_upto_region 9 with fail
              (refine wp_region_quiet_more (by kernel_rfl) (by kernel_rfl) ?_; (repeat (go_big_quiet_step (first | (go_at_call 130; have h := ref03_In t l b r x.row x.col; rw [HI.out] at h; exact Calls.more_of (h _))))); refine wpQuiet_nil ?_; intro _ hw1; obtain ⟨⟨lq, nq⟩, hw2⟩ := hw1; subst hw2)
              all_goals go_wp2
              all_goals go_returns
              all_goals exact ⟨by rw [HRR.out]; rfl, HB.out.trans ((show Below wr.heap.size wr _ from (by (with_reducible repeat' (first | exact .refl _ _ | assumption | refine bmP ?_ ?_ | refine baP ?_ _ ?_ | refine .drew ?_ | refine .setCell ?_ ?_ _ | refine bdP ?_ _)) <;> go_size)).mono hsz)⟩
            · cases b2
              · have HRR := Lib.hid (show R = false from by rw [← hR']; rfl)
                clear hR'
                go_upto_region 9 with fail
                (refine wp_region_quiet_more (by kernel_rfl) (by kernel_rfl) ?_; (repeat (go_big_quiet_step (first | (go_at_call 130; have h := ref03_In t l b r x.row x.col; rw [HI.out] at h; exact Calls.more_of (h _)) | (go_at_call 18; have h := ref02_May x.v HX64.out; rw [HV.out] at h; exact Calls.more_of (h _))))); refine wpQuiet_nil ?_; intro _ hw1; obtain ⟨⟨lq, nq⟩, hw2⟩ := hw1; subst hw2)
                all_goals go_wp2
                all_goals go_returns
                all_goals exact ⟨by rw [HRR.out]; rfl, HB.out.trans ((show Below wr.heap.size wr _ from (by (with_reducible repeat' (first | exact .refl _ _ | assumption | refine bmP ?_ ?_ | refine baP ?_ _ ?_ | refine .drew ?_ | refine .setCell ?_ ?_ _ | refine bdP ?_ _)) <;> go_size)).mono hsz)⟩
              · cases b3
                · have HRR := Lib.hid (show R = false from by rw [← hR']; rfl)
                  clear hR'
                  go_upto_region 9 with fail
                  (refine wp_region_quiet_more (by kernel_rfl) (by kernel_rfl) ?_; (repeat (go_big_quiet_step (first | (go_at_call 130; have h := ref03_In t l b r x.row x.col; rw [HI.out] at h; exact Calls.more_of (h _)) | (go_at_call 18; have h := ref02_May x.v HX64.out; rw [HV.out] at h; exact Calls.more_of (h _)) | (go_at_call 131; have h := ref03_Before y.row y.col x.row x.col; rw [HF.out] at h; exact Calls.more_of (h _))))); refine wpQuiet_nil ?_; intro _ hw1; obtain ⟨⟨lq, nq⟩, hw2⟩ := hw1; subst hw2)
                  all_goals go_wp2
                  all_goals go_returns
                  all_goals exact ⟨by rw [HRR.out]; rfl, HB.out.trans ((show Below wr.heap.size wr _ from (by (with_reducible repeat' (first | exact .refl _ _ | assumption | refine bmP ?_ ?_ | refine baP ?_ _ ?_ | refine .drew ?_ | refine .setCell ?_ ?_ _ | refine bdP ?_ _)) <;> go_size)).mono hsz)⟩
                · have HRR := Lib.hid (show entsGo t l b r (prevE es (j + 1)) (es.drop (j + 1)) = R from by rw [← hR']; rfl)
                  clear hR'
                  go_upto_region 9 with fail
                  (refine wp_region_quiet_more (by kernel_rfl) (by kernel_rfl) ?_; (repeat (go_big_quiet_step (first | (go_at_call 130; have h := ref03_In t l b r x.row x.col; rw [HI.out] at h; exact Calls.more_of (h _)) | (go_at_call 18; have h := ref02_May x.v HX64.out; rw [HV.out] at h; exact Calls.more_of (h _)) | (go_at_call 131; have h := ref03_Before y.row y.col x.row x.col; rw [HF.out] at h; exact Calls.more_of (h _))))); refine wpQuiet_nil ?_; intro _ hw1; obtain ⟨⟨lq, nq⟩, hw2⟩ := hw1; subst hw2)
                  all_goals go_wp2
                  all_goals exact ⟨⟨j + 1, by omega, by go_num, HBX.out.trans ((show Below wr.heap.size wr _ from (by (with_reducible repeat' (first | exact .refl _ _ | assumption | refine bmP ?_ ?_ | refine baP ?_ _ ?_ | refine .drew ?_ | refine .setCell ?_ ?_ _ | refine bdP ?_ _)) <;> go_size)).mono hszx), HRR.out⟩, by simp [intOf]; omega⟩
        · obtain rfl : j = n := by omega
          rw [List.drop_of_length_le (by have := HL.out; omega)] at hR
          have hR2 : R = true := by rw [← hR]; unfold entsGo; rfl
          have HRR := Lib.hid hR2
          clear hR hR2 HE
          go_wp2
          go_returns
          exact ⟨by rw [HRR.out]; rfl, HB.out⟩
theorem ref08_may (a : Arg) (es : List En) (w : World) (hE : EntsAt w a es) (h64 : -9223372036854775808 ≤ a.val.num) (he : ∀ e ∈ es, -9223372036854775808 ≤ e.v.num) (hn : a.n ≤ 1000000000000) : Calls Tryz.prog 40 #[a.agg] w fun e w' => e = .returned (.bool (argOk a es)) ∧ Below w.heap.size w w' := by
  cases hm : a.many
  · exact ref08_may_one a es hm h64 hE.1 w
  · exact ref08_may_many a es hm w hE h64 he hn
end Go.Proofs.YtegbhdeaicgpkaaGreatDoor
namespace Go.Proofs.YtegbhdeaicgpkaaGreatDoor
open Go Go.RowKit
set_option maxRecDepth 100000 in
set_option maxHeartbeats 4000000 in
theorem ref08_Args (al : List Arg) (A : Option Addr) (n c B : Nat) (w : World) (hr : Reads w B 11 A n (argFlat al)) (hm : n ≤ 1000000000000) (ok : Nat → Bool)
    (hok : ∀ j a, al[j]? = some a → ∀ W, Below w.heap.size w W → Calls Tryz.prog 40 #[a.agg] W fun e w' => e = .returned (.bool (ok j)) ∧ Below W.heap.size W w') :
    Calls Tryz.prog 17 #[.slice A n c] w fun e w' => ∃ v, e = .returned (.tuple #[v, .bool ((List.range al.length).all ok)]) ∧ Below w.heap.size w w' := by
  have hlen : al.length = n := by
    have := hr.1
    rw [argFlat_length] at this
    omega
  obtain ⟨bs, hbs⟩ : ∃ bs, bs = (al.map Arg.many).map Value.bool := ⟨_, rfl⟩
  have HBX := Lib.hid (show ∀ (j : Nat) (x : Arg), al[j]? = some x → bs[j]? = some (.bool x.many) from fun j x hx => by rw [hbs, List.getElem?_map, List.getElem?_map, hx]; rfl)
  rw [hlen]
  have HR := Lib.hid hr
  have HOK := Lib.hid hok
  have HLEN := Lib.hid hlen
  clear hr hok hbs
  obtain ⟨i0, hi, hz0, hz1, hz2⟩ := info_parts info_B
  go_enter Tryz.func17, Tryz.ntmps17
  go_wp2
  go_loopw [4, 5, 6] (fun v k t wr => ∃ j : Nat, j ≤ n ∧ t = .int .i64 j ∧ k = .bool ((List.range j).all ok) ∧ GathRel w wr 4 1 v j (bs.take j)) (fun _ _ t _ => n - (intOf t).toNat)
  case atStart => exact ⟨0, Nat.zero_le _, rfl, rfl, Below.refl _ _, World.ownsRow_nil _ _ _ _⟩
  case round =>
    obtain ⟨j, hj, rfl, rfl, hG⟩ := hrel
    have HG := Lib.hid hG
    clear hG
    by_cases hlt : j < n
    · obtain ⟨a, ha⟩ : ∃ a, al[j]? = some a := ⟨_, List.getElem?_eq_getElem (show j < al.length by omega)⟩
      obtain ⟨bk, off, rfl, _, hc⟩ := HR.out.2 (by omega)
      have hcell : ∀ i u, a.cells[i]? = some u → wr.cell? ⟨bk, off + (j * 11 + i), none⟩ = some u := fun i u hu => by
        have h1 := hc _ u (argFlat_at al j a ha i u hu)
        exact (HG.out.1.cell (p := ⟨bk, _, none⟩) (World.block_lt_of_cell? w _ h1)).trans h1
      have c0 := hcell 0 _ rfl
      have c1 := hcell 1 _ rfl
      have c2 := hcell 2 _ rfl
      have c3 := hcell 3 _ rfl
      have c4 := hcell 4 _ rfl
      have c5 := hcell 5 _ rfl
      have c6 := hcell 6 _ rfl
      have c7 := hcell 7 _ rfl
      have c8 := hcell 8 _ rfl
      have c9 := hcell 9 _ rfl
      have c10 := hcell 10 _ rfl
      simp only [← Nat.add_assoc, Nat.add_zero] at c0 c1 c2 c3 c4 c5 c6 c7 c8 c9 c10
      have hbr : bk < wr.heap.size := World.block_lt_of_cell? wr _ c0
      have HAJ := Lib.hid ha
      have HCW := Lib.hid (fun i u (hu : a.cells[i]? = some u) => hc _ u (argFlat_at al j a ha i u hu))
      have HMH := Lib.hid (fun W (hB : Below w.heap.size w W) => HOK.out j a ha W hB)
      have hs : (List.range (j + 1)).all ok = ((List.range j).all ok && ok j) := by rw [List.range_succ, List.all_append]; simp
      have HS := Lib.hid hs
      obtain ⟨k, hk⟩ : ∃ k, (List.range j).all ok = k := ⟨_, rfl⟩
      rw [hk] at HS
      rw [hk]
      clear hcell hc ha hs hk
      cases k
      · go_wp2_with (first | (at_builtin; refine wpList_append_own _ rfl _ _ 34 rfl w.heap.size 4 i0 _ 1 1 Tryz.underlying34 hi hz0 hz1 hz2 rfl (by decide) _ _ _ rfl (own_below HG.out.2 (by (with_reducible repeat' (first | exact .refl _ _ | assumption | refine bmP ?_ ?_ | refine baP ?_ _ ?_ | refine .drew ?_ | refine .setCell ?_ ?_ _ | refine bdP ?_ _)) <;> go_size)) _ 1 1 [.bool a.many] rfl rfl ?_ ?_ ?_ ?_ ?_ ?_))
        · first | exact fun i u hu => fresh_cells (by simp) i u hu | exact fun i u hu => hu
        · intro u hu; simp only [List.mem_cons, List.not_mem_nil, or_false] at hu; subst hu; rfl
        · simp only [maxLen]; omega
        · omega
        · have h1 := HG.out.1.size
          simp at h1 ⊢
          omega
        · intro v' w3 hown' hgrow _
          have R := GathRel.step HG.out (by (with_reducible repeat' (first | exact .refl _ _ | assumption | refine bmP ?_ ?_ | refine baP ?_ _ ?_ | refine .drew ?_ | refine .setCell ?_ ?_ _ | refine bdP ?_ _)) <;> go_size) (show w3.ownsRow w.heap.size 4 1 v' (j + 1) (bs.take j ++ [.bool a.many]) from by simpa using hown') hgrow
          rw [← take_one (HBX.out j a HAJ.out)] at R
          have HG' := Lib.hid R
          have HB' := Lib.hid (show Below w.heap.size w w3 from R.1)
          clear hown' hgrow R
          clear c0 c1 c2 c3 c4 c5 c6 c7 c8 c9 c10
          go_wp2
          go_roundw
          case rel => exact ⟨j + 1, by omega, by go_num, by rw [HS.out]; rfl, HG'.out⟩
          case measure => simp [intOf]; omega
      · go_wp2_with (first | (at_builtin; refine wpList_append_own _ rfl _ _ 34 rfl w.heap.size 4 i0 _ 1 1 Tryz.underlying34 hi hz0 hz1 hz2 rfl (by decide) _ _ _ rfl (own_below HG.out.2 (by (with_reducible repeat' (first | exact .refl _ _ | assumption | refine bmP ?_ ?_ | refine baP ?_ _ ?_ | refine .drew ?_ | refine .setCell ?_ ?_ _ | refine bdP ?_ _)) <;> go_size)) _ 1 1 [.bool a.many] rfl rfl ?_ ?_ ?_ ?_ ?_ ?_))
        · first | exact fun i u hu => fresh_cells (by simp) i u hu | exact fun i u hu => hu
        · intro u hu; simp only [List.mem_cons, List.not_mem_nil, or_false] at hu; subst hu; rfl
        · simp only [maxLen]; omega
        · omega
        · have h1 := HG.out.1.size
          simp at h1 ⊢
          omega
        · intro v' w3 hown' hgrow _
          have R := GathRel.step HG.out (by (with_reducible repeat' (first | exact .refl _ _ | assumption | refine bmP ?_ ?_ | refine baP ?_ _ ?_ | refine .drew ?_ | refine .setCell ?_ ?_ _ | refine bdP ?_ _)) <;> go_size) (show w3.ownsRow w.heap.size 4 1 v' (j + 1) (bs.take j ++ [.bool a.many]) from by simpa using hown') hgrow
          rw [← take_one (HBX.out j a HAJ.out)] at R
          have HG' := Lib.hid R
          have HB' := Lib.hid (show Below w.heap.size w w3 from R.1)
          clear hown' hgrow R
          clear c0 c1 c2 c3 c4 c5 c6 c7 c8 c9 c10 hbr
          have c0 := cell_below (HCW.out 0 _ rfl) HB'.out
          have c1 := cell_below (HCW.out 1 _ rfl) HB'.out
          have c2 := cell_below (HCW.out 2 _ rfl) HB'.out
          have c3 := cell_below (HCW.out 3 _ rfl) HB'.out
          have c4 := cell_below (HCW.out 4 _ rfl) HB'.out
          have c5 := cell_below (HCW.out 5 _ rfl) HB'.out
          have c6 := cell_below (HCW.out 6 _ rfl) HB'.out
          have c7 := cell_below (HCW.out 7 _ rfl) HB'.out
          have c8 := cell_below (HCW.out 8 _ rfl) HB'.out
          have c9 := cell_below (HCW.out 9 _ rfl) HB'.out
          have c10 := cell_below (HCW.out 10 _ rfl) HB'.out
          simp only [← Nat.add_assoc, Nat.add_zero] at c0 c1 c2 c3 c4 c5 c6 c7 c8 c9 c10
          have hbr : bk < w3.heap.size := World.block_lt_of_cell? w3 _ c0
          go_wp2_with (first | (go_at_call 40; refine (HMH.out _ HB'.out).mono ?_; rintro e w2 ⟨rfl, hb⟩; have HB2 := Lib.hid hb; clear hb))
          go_roundw
          case rel => exact ⟨j + 1, by omega, by go_num, by rw [HS.out]; simp, HG'.out.1.trans (HB2.out.mono HG'.out.1.size), own_below HG'.out.2 HB2.out⟩
          case measure => simp [intOf]; omega
    · obtain rfl : j = n := by omega
      have HB := Lib.hid HG.out.1
      go_wp2
      go_returns
      exact ⟨_, rfl, HB.out⟩
end Go.Proofs.YtegbhdeaicgpkaaGreatDoor
