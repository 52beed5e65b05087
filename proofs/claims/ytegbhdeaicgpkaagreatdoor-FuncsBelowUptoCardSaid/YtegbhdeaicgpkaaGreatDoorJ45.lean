/-
  Parts of a proof: BelowW.
-/
import Derived.Test.YtegbhdeaicgpkaaGreatDoorJ13
set_option linter.all false
namespace Go.Proofs.YtegbhdeaicgpkaaGreatDoor
open Go Go.RowKit
set_option maxRecDepth 100000 in
set_option maxHeartbeats 4000000 in
theorem below_walk (s : ByteArray) (sl : Value) (tx : Int) (w : World) (kn kt ka kk : Bool) (R : V) (hkn : (numTab s).isSome = kn) (hkt : (textTab s).isSome = kt) (hka : (aggTab s).isSome = ka) (hkk : D1 50 s = kk)
    (hT : ∀ W b, Ready W b → Below w.heap.size w W → Calls Tryz.prog 8 #[.pointer (some ⟨b, 0, none⟩), .string s, sl, .int .i64 tx] W fun e w' => e = .returned (Value.agg #[Value.int .i64 R.tag, Value.int .i64 R.num, Value.string R.str, Value.bool R.is, Value.int .i64 R.code]) ∧ Below W.heap.size W w')
    (h0 : kn = true → ∀ W, Below w.heap.size w W → Calls Tryz.prog 10 #[.string s, sl, .int .i64 tx] W fun e w' => e = .returned (Value.agg #[Value.int .i64 R.tag, Value.int .i64 R.num, Value.string R.str, Value.bool R.is, Value.int .i64 R.code]) ∧ Below W.heap.size W w')
    (h1 : kn = false → kt = true → ∀ W, Below w.heap.size w W → Calls Tryz.prog 12 #[.string s, sl, .int .i64 tx] W fun e w' => e = .returned (Value.agg #[Value.int .i64 R.tag, Value.int .i64 R.num, Value.string R.str, Value.bool R.is, Value.int .i64 R.code]) ∧ Below W.heap.size W w')
    (h2 : kn = false → kt = false → ka = true → ∀ W, Below w.heap.size w W → Calls Tryz.prog 14 #[.string s, sl, .int .i64 tx] W fun e w' => e = .returned (Value.agg #[Value.int .i64 R.tag, Value.int .i64 R.num, Value.string R.str, Value.bool R.is, Value.int .i64 R.code]) ∧ Below W.heap.size W w')
    (h3 : kk = false → R = errG 8) :
    Calls Tryz.prog 3 #[.string s, sl, .int .i64 tx] w fun e w' => e = .returned (.bool true) ∧ Below w.heap.size w w' := by
  have HKN := Lib.hid hkn
  have HKT := Lib.hid hkt
  have HKA := Lib.hid hka
  have HKK := Lib.hid hkk
  have HT := Lib.hid hT
  have hq := eq_VV R
  clear hkn hkt hka hkk hT
  cases kn
  · cases kt
    · cases ka
      · cases kk
        · obtain rfl := h3 rfl
          have hq8 : ∀ W, (binOp .eql 29 (Value.agg #[Value.int .i64 (errG 8).tag, Value.int .i64 (errG 8).num, Value.string (errG 8).str, Value.bool (errG 8).is, Value.int .i64 (errG 8).code]) (.agg #[.int .i64 4, .int .i64 0, .string ⟨#[]⟩, .bool false, .int .i64 8])).run Tryz.prog W = .ok (.bool true) W := hq
          obtain ⟨R, hR⟩ : ∃ R, errG 8 = R := ⟨_, rfl⟩
          rw [hR] at hq8 HT
          clear h0 h1 h2 h3 hq hR
          go_enter Tryz.func3, Tryz.ntmps3
          go_wp2_with (first | (go_at_call 6; refine (table_New _).mono ?_; rintro e w1 ⟨rfl, hF, hb⟩; have HF := Lib.hid hF; have HB1 := Lib.hid hb; clear hF hb) | (go_at_call 7; refine (law_knownF w.heap.size w1 (.inr HF.out)).mono ?_; rintro e w2 ⟨rfl, hR, hT2⟩; have HB2 := Lib.hid (HB1.out.trans (hT2.baseL (Nat.le_refl _) HB1.out.size)); have HR := Lib.hid hR; have hws := HB2.out.size; clear hR hT2) | (go_at_call 8; refine (HT.out _ _ HR.out HB2.out).mono ?_; rintro e w3 ⟨rfl, hb⟩; obtain ⟨l3, q3, rfl⟩ := more_of_below hb; clear hb) | (go_at_call 9; refine (nums_Known s _).mono ?_; rw [HKN.out]; rintro e w4 ⟨rfl, hb⟩; obtain ⟨l4, q4, rfl⟩ := more_of_below hb; clear hb) | (go_at_call 11; refine (texts_Known s _).mono ?_; rw [HKT.out]; rintro e w5 ⟨rfl, hb⟩; obtain ⟨l5, q5, rfl⟩ := more_of_below hb; clear hb) | (go_at_call 13; refine (aggs_Known s _).mono ?_; rw [HKA.out]; rintro e w6 ⟨rfl, hb⟩; obtain ⟨l6, q6, rfl⟩ := more_of_below hb; clear hb))
          obtain ⟨WQ, hWQ⟩ : ∃ WQ, WQ = more ((more w2 l3 q3).alloc (.cells #[.int .i64 R.tag, .int .i64 R.num, .string R.str, .bool R.is, .int .i64 R.code] 29)) (l4 ++ (l5 ++ l6)) q6 := ⟨_, rfl⟩
          rw [← hWQ]
          have c0 : WQ.cell? ⟨w2.heap.size + l3.length, 0, none⟩ = some (.int .i64 R.tag) := by rw [hWQ]; go_simp
          have c1 : WQ.cell? ⟨w2.heap.size + l3.length, 1, none⟩ = some (.int .i64 R.num) := by rw [hWQ]; go_simp
          have c2 : WQ.cell? ⟨w2.heap.size + l3.length, 2, none⟩ = some (.string R.str) := by rw [hWQ]; go_simp
          have c3 : WQ.cell? ⟨w2.heap.size + l3.length, 3, none⟩ = some (.bool R.is) := by rw [hWQ]; go_simp
          have c4 : WQ.cell? ⟨w2.heap.size + l3.length, 4, none⟩ = some (.int .i64 R.code) := by rw [hWQ]; go_simp
          have cl : w2.heap.size + l3.length < WQ.heap.size := World.block_lt_of_cell? WQ _ c0
          have hbq : Below w2.heap.size w2 WQ := by rw [hWQ]; exact (by (with_reducible repeat' (first | exact .refl _ _ | assumption | refine bmP ?_ ?_ | refine baP ?_ _ ?_ | refine .drew ?_ | refine .setCell ?_ ?_ _ | refine bdP ?_ _)) <;> go_size)
          have hsq := hbq.size
          have HK2 := Lib.hid (fun l n => (show Calls Tryz.prog 15 #[.pointer (some ⟨w.heap.size, 0, none⟩), .string s] (more WQ l n) fun e w' => e = .returned (.bool false) ∧ Below (more WQ l n).heap.size (more WQ l n) w' by have h := table_KnownR w.heap.size s (more WQ l n) (HR.out.below (hbq.trans (below_more hsq))); rw [HKK.out] at h; exact h))
          clear hWQ
          (refine wp_region_quiet_more (by kernel_rfl) (by kernel_rfl) ?_; (repeat (go_big_quiet_step (first | (go_at_call 15; exact Calls.more_of (HK2.out _ _)) | (go_at_call 16; exact Calls.more_of (law_Fault 8 _))))); refine wpQuiet_nil ?_; intro _ hw1; obtain ⟨⟨lq, nq⟩, hw2⟩ := hw1; subst hw2)
          all_goals go_wp2
          all_goals go_returns
          all_goals exact ⟨rfl, HB2.out.trans ((hbq.trans ((show Below WQ.heap.size WQ _ from (by (with_reducible repeat' (first | exact .refl _ _ | assumption | refine bmP ?_ ?_ | refine baP ?_ _ ?_ | refine .drew ?_ | refine .setCell ?_ ?_ _ | refine bdP ?_ _)) <;> go_size)).mono hsq)).mono HB2.out.size)⟩
        · clear h0 h1 h2 h3
          go_enter Tryz.func3, Tryz.ntmps3
          go_wp2_with (first | (go_at_call 6; refine (table_New _).mono ?_; rintro e w1 ⟨rfl, hF, hb⟩; have HF := Lib.hid hF; have HB1 := Lib.hid hb; clear hF hb) | (go_at_call 7; refine (law_knownF w.heap.size w1 (.inr HF.out)).mono ?_; rintro e w2 ⟨rfl, hR, hT2⟩; have HB2 := Lib.hid (HB1.out.trans (hT2.baseL (Nat.le_refl _) HB1.out.size)); have HR := Lib.hid hR; have hws := HB2.out.size; clear hR hT2) | (go_at_call 8; refine (HT.out _ _ HR.out HB2.out).mono ?_; rintro e w3 ⟨rfl, hb⟩; obtain ⟨l3, q3, rfl⟩ := more_of_below hb; clear hb) | (go_at_call 9; refine (nums_Known s _).mono ?_; rw [HKN.out]; rintro e w4 ⟨rfl, hb⟩; obtain ⟨l4, q4, rfl⟩ := more_of_below hb; clear hb) | (go_at_call 11; refine (texts_Known s _).mono ?_; rw [HKT.out]; rintro e w5 ⟨rfl, hb⟩; obtain ⟨l5, q5, rfl⟩ := more_of_below hb; clear hb) | (go_at_call 13; refine (aggs_Known s _).mono ?_; rw [HKA.out]; rintro e w6 ⟨rfl, hb⟩; obtain ⟨l6, q6, rfl⟩ := more_of_below hb; clear hb))
          obtain ⟨WQ, hWQ⟩ : ∃ WQ, WQ = more ((more w2 l3 q3).alloc (.cells #[.int .i64 R.tag, .int .i64 R.num, .string R.str, .bool R.is, .int .i64 R.code] 29)) (l4 ++ (l5 ++ l6)) q6 := ⟨_, rfl⟩
          rw [← hWQ]
          have c0 : WQ.cell? ⟨w2.heap.size + l3.length, 0, none⟩ = some (.int .i64 R.tag) := by rw [hWQ]; go_simp
          have c1 : WQ.cell? ⟨w2.heap.size + l3.length, 1, none⟩ = some (.int .i64 R.num) := by rw [hWQ]; go_simp
          have c2 : WQ.cell? ⟨w2.heap.size + l3.length, 2, none⟩ = some (.string R.str) := by rw [hWQ]; go_simp
          have c3 : WQ.cell? ⟨w2.heap.size + l3.length, 3, none⟩ = some (.bool R.is) := by rw [hWQ]; go_simp
          have c4 : WQ.cell? ⟨w2.heap.size + l3.length, 4, none⟩ = some (.int .i64 R.code) := by rw [hWQ]; go_simp
          have cl : w2.heap.size + l3.length < WQ.heap.size := World.block_lt_of_cell? WQ _ c0
          have hbq : Below w2.heap.size w2 WQ := by rw [hWQ]; exact (by (with_reducible repeat' (first | exact .refl _ _ | assumption | refine bmP ?_ ?_ | refine baP ?_ _ ?_ | refine .drew ?_ | refine .setCell ?_ ?_ _ | refine bdP ?_ _)) <;> go_size)
          have hsq := hbq.size
          have HK2 := Lib.hid (fun l n => (show Calls Tryz.prog 15 #[.pointer (some ⟨w.heap.size, 0, none⟩), .string s] (more WQ l n) fun e w' => e = .returned (.bool true) ∧ Below (more WQ l n).heap.size (more WQ l n) w' by have h := table_KnownR w.heap.size s (more WQ l n) (HR.out.below (hbq.trans (below_more hsq))); rw [HKK.out] at h; exact h))
          clear hWQ
          (refine wp_region_quiet_more (by kernel_rfl) (by kernel_rfl) ?_; (repeat (go_big_quiet_step (first | (go_at_call 15; exact Calls.more_of (HK2.out _ _))))); refine wpQuiet_nil ?_; intro _ hw1; obtain ⟨⟨lq, nq⟩, hw2⟩ := hw1; subst hw2)
          all_goals go_wp2
          all_goals go_returns
          all_goals exact ⟨rfl, HB2.out.trans ((hbq.trans ((show Below WQ.heap.size WQ _ from (by (with_reducible repeat' (first | exact .refl _ _ | assumption | refine bmP ?_ ?_ | refine baP ?_ _ ?_ | refine .drew ?_ | refine .setCell ?_ ?_ _ | refine bdP ?_ _)) <;> go_size)).mono hsq)).mono HB2.out.size)⟩
      · have HC := Lib.hid (h2 rfl rfl rfl)
        clear h0 h1 h2 h3
        go_enter Tryz.func3, Tryz.ntmps3
        go_wp2_with (first | (go_at_call 6; refine (table_New _).mono ?_; rintro e w1 ⟨rfl, hF, hb⟩; have HF := Lib.hid hF; have HB1 := Lib.hid hb; clear hF hb) | (go_at_call 7; refine (law_knownF w.heap.size w1 (.inr HF.out)).mono ?_; rintro e w2 ⟨rfl, hR, hT2⟩; have HB2 := Lib.hid (HB1.out.trans (hT2.baseL (Nat.le_refl _) HB1.out.size)); have HR := Lib.hid hR; have hws := HB2.out.size; clear hR hT2) | (go_at_call 8; refine (HT.out _ _ HR.out HB2.out).mono ?_; rintro e w3 ⟨rfl, hb⟩; obtain ⟨l3, q3, rfl⟩ := more_of_below hb; clear hb) | (go_at_call 9; refine (nums_Known s _).mono ?_; rw [HKN.out]; rintro e w4 ⟨rfl, hb⟩; obtain ⟨l4, q4, rfl⟩ := more_of_below hb; clear hb) | (go_at_call 11; refine (texts_Known s _).mono ?_; rw [HKT.out]; rintro e w5 ⟨rfl, hb⟩; obtain ⟨l5, q5, rfl⟩ := more_of_below hb; clear hb) | (go_at_call 13; refine (aggs_Known s _).mono ?_; rw [HKA.out]; rintro e w6 ⟨rfl, hb⟩; obtain ⟨l6, q6, rfl⟩ := more_of_below hb; clear hb))
        obtain ⟨WQ, hWQ⟩ : ∃ WQ, WQ = more ((more w2 l3 q3).alloc (.cells #[.int .i64 R.tag, .int .i64 R.num, .string R.str, .bool R.is, .int .i64 R.code] 29)) (l4 ++ (l5 ++ l6)) q6 := ⟨_, rfl⟩
        rw [← hWQ]
        have c0 : WQ.cell? ⟨w2.heap.size + l3.length, 0, none⟩ = some (.int .i64 R.tag) := by rw [hWQ]; go_simp
        have c1 : WQ.cell? ⟨w2.heap.size + l3.length, 1, none⟩ = some (.int .i64 R.num) := by rw [hWQ]; go_simp
        have c2 : WQ.cell? ⟨w2.heap.size + l3.length, 2, none⟩ = some (.string R.str) := by rw [hWQ]; go_simp
        have c3 : WQ.cell? ⟨w2.heap.size + l3.length, 3, none⟩ = some (.bool R.is) := by rw [hWQ]; go_simp
        have c4 : WQ.cell? ⟨w2.heap.size + l3.length, 4, none⟩ = some (.int .i64 R.code) := by rw [hWQ]; go_simp
        have cl : w2.heap.size + l3.length < WQ.heap.size := World.block_lt_of_cell? WQ _ c0
        have hbq : Below w2.heap.size w2 WQ := by rw [hWQ]; exact (by (with_reducible repeat' (first | exact .refl _ _ | assumption | refine bmP ?_ ?_ | refine baP ?_ _ ?_ | refine .drew ?_ | refine .setCell ?_ ?_ _ | refine bdP ?_ _)) <;> go_size)
        have hsq := hbq.size
        have HC2 := Lib.hid (fun l n => HC.out (more WQ l n) (HB2.out.trans ((hbq.trans (below_more hsq)).mono HB2.out.size)))
        clear hWQ
        (refine wp_region_quiet_more (by kernel_rfl) (by kernel_rfl) ?_; (repeat (go_big_quiet_step (first | (go_at_call 14; exact Calls.more_of (HC2.out _ _))))); refine wpQuiet_nil ?_; intro _ hw1; obtain ⟨⟨lq, nq⟩, hw2⟩ := hw1; subst hw2)
        all_goals go_wp2
        all_goals go_returns
        all_goals exact ⟨rfl, HB2.out.trans ((hbq.trans ((show Below WQ.heap.size WQ _ from (by (with_reducible repeat' (first | exact .refl _ _ | assumption | refine bmP ?_ ?_ | refine baP ?_ _ ?_ | refine .drew ?_ | refine .setCell ?_ ?_ _ | refine bdP ?_ _)) <;> go_size)).mono hsq)).mono HB2.out.size)⟩
    · have HC := Lib.hid (h1 rfl rfl)
      clear h0 h1 h2 h3
      go_enter Tryz.func3, Tryz.ntmps3
      go_wp2_with (first | (go_at_call 6; refine (table_New _).mono ?_; rintro e w1 ⟨rfl, hF, hb⟩; have HF := Lib.hid hF; have HB1 := Lib.hid hb; clear hF hb) | (go_at_call 7; refine (law_knownF w.heap.size w1 (.inr HF.out)).mono ?_; rintro e w2 ⟨rfl, hR, hT2⟩; have HB2 := Lib.hid (HB1.out.trans (hT2.baseL (Nat.le_refl _) HB1.out.size)); have HR := Lib.hid hR; have hws := HB2.out.size; clear hR hT2) | (go_at_call 8; refine (HT.out _ _ HR.out HB2.out).mono ?_; rintro e w3 ⟨rfl, hb⟩; obtain ⟨l3, q3, rfl⟩ := more_of_below hb; clear hb) | (go_at_call 9; refine (nums_Known s _).mono ?_; rw [HKN.out]; rintro e w4 ⟨rfl, hb⟩; obtain ⟨l4, q4, rfl⟩ := more_of_below hb; clear hb) | (go_at_call 11; refine (texts_Known s _).mono ?_; rw [HKT.out]; rintro e w5 ⟨rfl, hb⟩; obtain ⟨l5, q5, rfl⟩ := more_of_below hb; clear hb))
      obtain ⟨WQ, hWQ⟩ : ∃ WQ, WQ = more ((more w2 l3 q3).alloc (.cells #[.int .i64 R.tag, .int .i64 R.num, .string R.str, .bool R.is, .int .i64 R.code] 29)) (l4 ++ l5) q5 := ⟨_, rfl⟩
      rw [← hWQ]
      have c0 : WQ.cell? ⟨w2.heap.size + l3.length, 0, none⟩ = some (.int .i64 R.tag) := by rw [hWQ]; go_simp
      have c1 : WQ.cell? ⟨w2.heap.size + l3.length, 1, none⟩ = some (.int .i64 R.num) := by rw [hWQ]; go_simp
      have c2 : WQ.cell? ⟨w2.heap.size + l3.length, 2, none⟩ = some (.string R.str) := by rw [hWQ]; go_simp
      have c3 : WQ.cell? ⟨w2.heap.size + l3.length, 3, none⟩ = some (.bool R.is) := by rw [hWQ]; go_simp
      have c4 : WQ.cell? ⟨w2.heap.size + l3.length, 4, none⟩ = some (.int .i64 R.code) := by rw [hWQ]; go_simp
      have cl : w2.heap.size + l3.length < WQ.heap.size := World.block_lt_of_cell? WQ _ c0
      have hbq : Below w2.heap.size w2 WQ := by rw [hWQ]; exact (by (with_reducible repeat' (first | exact .refl _ _ | assumption | refine bmP ?_ ?_ | refine baP ?_ _ ?_ | refine .drew ?_ | refine .setCell ?_ ?_ _ | refine bdP ?_ _)) <;> go_size)
      have hsq := hbq.size
      have HC2 := Lib.hid (fun l n => HC.out (more WQ l n) (HB2.out.trans ((hbq.trans (below_more hsq)).mono HB2.out.size)))
      clear hWQ
      (refine wp_region_quiet_more (by kernel_rfl) (by kernel_rfl) ?_; (repeat (go_big_quiet_step (first | (go_at_call 12; exact Calls.more_of (HC2.out _ _))))); refine wpQuiet_nil ?_; intro _ hw1; obtain ⟨⟨lq, nq⟩, hw2⟩ := hw1; subst hw2)
      all_goals go_wp2
      all_goals go_returns
      all_goals exact ⟨rfl, HB2.out.trans ((hbq.trans ((show Below WQ.heap.size WQ _ from (by (with_reducible repeat' (first | exact .refl _ _ | assumption | refine bmP ?_ ?_ | refine baP ?_ _ ?_ | refine .drew ?_ | refine .setCell ?_ ?_ _ | refine bdP ?_ _)) <;> go_size)).mono hsq)).mono HB2.out.size)⟩
  · have HC := Lib.hid (h0 rfl)
    clear h0 h1 h2 h3
    go_enter Tryz.func3, Tryz.ntmps3
    go_wp2_with (first | (go_at_call 6; refine (table_New _).mono ?_; rintro e w1 ⟨rfl, hF, hb⟩; have HF := Lib.hid hF; have HB1 := Lib.hid hb; clear hF hb) | (go_at_call 7; refine (law_knownF w.heap.size w1 (.inr HF.out)).mono ?_; rintro e w2 ⟨rfl, hR, hT2⟩; have HB2 := Lib.hid (HB1.out.trans (hT2.baseL (Nat.le_refl _) HB1.out.size)); have HR := Lib.hid hR; have hws := HB2.out.size; clear hR hT2) | (go_at_call 8; refine (HT.out _ _ HR.out HB2.out).mono ?_; rintro e w3 ⟨rfl, hb⟩; obtain ⟨l3, q3, rfl⟩ := more_of_below hb; clear hb) | (go_at_call 9; refine (nums_Known s _).mono ?_; rw [HKN.out]; rintro e w4 ⟨rfl, hb⟩; obtain ⟨l4, q4, rfl⟩ := more_of_below hb; clear hb))
    obtain ⟨WQ, hWQ⟩ : ∃ WQ, WQ = more ((more w2 l3 q3).alloc (.cells #[.int .i64 R.tag, .int .i64 R.num, .string R.str, .bool R.is, .int .i64 R.code] 29)) l4 q4 := ⟨_, rfl⟩
    rw [← hWQ]
    have c0 : WQ.cell? ⟨w2.heap.size + l3.length, 0, none⟩ = some (.int .i64 R.tag) := by rw [hWQ]; go_simp
    have c1 : WQ.cell? ⟨w2.heap.size + l3.length, 1, none⟩ = some (.int .i64 R.num) := by rw [hWQ]; go_simp
    have c2 : WQ.cell? ⟨w2.heap.size + l3.length, 2, none⟩ = some (.string R.str) := by rw [hWQ]; go_simp
    have c3 : WQ.cell? ⟨w2.heap.size + l3.length, 3, none⟩ = some (.bool R.is) := by rw [hWQ]; go_simp
    have c4 : WQ.cell? ⟨w2.heap.size + l3.length, 4, none⟩ = some (.int .i64 R.code) := by rw [hWQ]; go_simp
    have cl : w2.heap.size + l3.length < WQ.heap.size := World.block_lt_of_cell? WQ _ c0
    have hbq : Below w2.heap.size w2 WQ := by rw [hWQ]; exact (by (with_reducible repeat' (first | exact .refl _ _ | assumption | refine bmP ?_ ?_ | refine baP ?_ _ ?_ | refine .drew ?_ | refine .setCell ?_ ?_ _ | refine bdP ?_ _)) <;> go_size)
    have hsq := hbq.size
    have HC2 := Lib.hid (fun l n => HC.out (more WQ l n) (HB2.out.trans ((hbq.trans (below_more hsq)).mono HB2.out.size)))
    clear hWQ
    (refine wp_region_quiet_more (by kernel_rfl) (by kernel_rfl) ?_; (repeat (go_big_quiet_step (first | (go_at_call 10; exact Calls.more_of (HC2.out _ _))))); refine wpQuiet_nil ?_; intro _ hw1; obtain ⟨⟨lq, nq⟩, hw2⟩ := hw1; subst hw2)
    all_goals go_wp2
    all_goals go_returns
    all_goals exact ⟨rfl, HB2.out.trans ((hbq.trans ((show Below WQ.heap.size WQ _ from (by (with_reducible repeat' (first | exact .refl _ _ | assumption | refine bmP ?_ ?_ | refine baP ?_ _ ?_ | refine .drew ?_ | refine .setCell ?_ ?_ _ | refine bdP ?_ _)) <;> go_size)).mono hsq)).mono HB2.out.size)⟩
end Go.Proofs.YtegbhdeaicgpkaaGreatDoor
