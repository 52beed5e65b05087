/-
  Parts of a proof: FaultsW.
-/
import Derived.Test.YtegbhdeaicgpkaaGreatDoorJ47
import Derived.Test.YtegbhdeaicgpkaaGreatDoorJ52
import Derived.Test.YtegbhdeaicgpkaaGreatDoorJ51
set_option linter.all false
namespace Go.Proofs.YtegbhdeaicgpkaaGreatDoor
open Go Go.RowKit
set_option maxRecDepth 100000 in
set_option maxHeartbeats 4000000 in
theorem faults_walk {w : World} {pl : List (Arg × List En)} {A : Option Addr} {n c : Nat} (hI : LawIn w pl A n c) (s : ByteArray) (tx : Int) (R : V) (ok : Bool)
    (hT : ∀ W b, Ready W b → Below w.heap.size w W → Calls Tryz.prog 8 #[.pointer (some ⟨b, 0, none⟩), .string s, .slice A n c, .int .i64 tx] W fun e w' => e = .returned (Value.agg #[Value.int .i64 R.tag, Value.int .i64 R.num, Value.string R.str, Value.bool R.is, Value.int .i64 R.code]) ∧ Below W.heap.size W w')
    (hA : ∀ W, Below w.heap.size w W → Calls Tryz.prog 17 #[.slice A n c] W fun e w' => ∃ v, e = .returned (.tuple #[v, .bool ok]) ∧ Below W.heap.size W w')
    (hM : mayG R = true) (hlo : -9223372036854775808 ≤ R.num) (hno : ok = false → R = errG 8) (hyes : ok = true → (∀ p ∈ pl, p.1.val.code ≠ 1 ∧ ∀ e ∈ p.2, e.v.code ≠ 1) → R.code ≠ 1) :
    Calls Tryz.prog 4 #[.string s, .slice A n c, .int .i64 tx] w fun e w' => e = .returned (.bool true) ∧ Below w.heap.size w w' := by
  have HI := Lib.hid hI
  have HT := Lib.hid hT
  have HA := Lib.hid hA
  have HM := Lib.hid hM
  have HLO := Lib.hid hlo
  have hm := hI.hm
  have hlen := hI.len
  clear hI hT hA hM hlo
  cases ok
  · obtain rfl := hno rfl
    have hq8 : ∀ W, (binOp .eql 29 (Value.agg #[Value.int .i64 (errG 8).tag, Value.int .i64 (errG 8).num, Value.string (errG 8).str, Value.bool (errG 8).is, Value.int .i64 (errG 8).code]) (.agg #[.int .i64 4, .int .i64 0, .string ⟨#[]⟩, .bool false, .int .i64 8])).run Tryz.prog W = .ok (.bool true) W := eq_VV (errG 8)
    obtain ⟨R, hR⟩ : ∃ R, errG 8 = R := ⟨_, rfl⟩
    rw [hR] at hq8 HT HM HLO
    clear hno hyes hR
    go_enter Tryz.func4, Tryz.ntmps4
    go_wp2_with (first | (go_at_call 6; refine (table_New _).mono ?_; rintro e w1 ⟨rfl, hF, hb⟩; have HF := Lib.hid hF; have HB1 := Lib.hid hb; clear hF hb) | (go_at_call 7; refine (law_knownF w.heap.size w1 (.inr HF.out)).mono ?_; rintro e w2 ⟨rfl, hR, hT2⟩; have HB2 := Lib.hid (HB1.out.trans (hT2.baseL (Nat.le_refl _) HB1.out.size)); have HR := Lib.hid hR; have hws := HB2.out.size; clear hR hT2) | (go_at_call 8; refine (HT.out _ _ HR.out HB2.out).mono ?_; rintro e w3 ⟨rfl, hb⟩; obtain ⟨l3, q3, rfl⟩ := more_of_below hb; clear hb) | (go_at_call 17; refine (HA.out _ (HB2.out.trans ((show Below w2.heap.size w2 _ from (by (with_reducible repeat' (first | exact .refl _ _ | assumption | refine bmP ?_ ?_ | refine baP ?_ _ ?_ | refine .drew ?_ | refine .setCell ?_ ?_ _ | refine bdP ?_ _)) <;> go_size)).mono HB2.out.size))).mono ?_; rintro e w4 ⟨v4, rfl, hb⟩; obtain ⟨l4, q4, rfl⟩ := more_of_below hb; clear hb) | (go_at_call 18; refine (ref02_May R HLO.out _).mono ?_; rw [HM.out]; rintro e w5 ⟨rfl, hb⟩; obtain ⟨l5, q5, rfl⟩ := more_of_below hb; clear hb))
    obtain ⟨WQ, hWQ⟩ : ∃ WQ, WQ = more ((more w2 l3 q3).alloc (.cells #[.int .i64 R.tag, .int .i64 R.num, .string R.str, .bool R.is, .int .i64 R.code] 29)) (l4 ++ l5) q5 := ⟨_, rfl⟩
    rw [← hWQ]
    have c0 : WQ.cell? ⟨w2.heap.size + l3.length, 0, none⟩ = some (.int .i64 R.tag) := by rw [hWQ]; go_simp
    have c1 : WQ.cell? ⟨w2.heap.size + l3.length, 1, none⟩ = some (.int .i64 R.num) := by rw [hWQ]; go_simp
    have c2 : WQ.cell? ⟨w2.heap.size + l3.length, 2, none⟩ = some (.string R.str) := by rw [hWQ]; go_simp
    have c3 : WQ.cell? ⟨w2.heap.size + l3.length, 3, none⟩ = some (.bool R.is) := by rw [hWQ]; go_simp
    have c4 : WQ.cell? ⟨w2.heap.size + l3.length, 4, none⟩ = some (.int .i64 R.code) := by rw [hWQ]; go_simp
    have cl : w2.heap.size + l3.length < WQ.heap.size := World.block_lt_of_cell? WQ _ c0
    have hbq : Below w2.heap.size w2 WQ := by rw [hWQ]; exact (by (with_reducible repeat' (first | exact .refl _ _ | assumption | refine bmP ?_ ?_ | refine baP ?_ _ ?_ | refine .drew ?_ | refine .setCell ?_ ?_ _ | refine bdP ?_ _)) <;> go_size)
    have HQ := Lib.hid (HB2.out.trans (hbq.mono HB2.out.size))
    clear hWQ hbq
    (refine wp_region_quiet_more (by kernel_rfl) (by kernel_rfl) ?_; (repeat (go_big_quiet_step (first | (go_at_call 16; exact Calls.more_of (law_Fault 8 _))))); refine wpQuiet_nil ?_; intro _ hw1; obtain ⟨⟨lq, nq⟩, hw2⟩ := hw1; subst hw2)
    all_goals go_wp2
    all_goals go_returns
    all_goals exact ⟨rfl, HQ.out.trans ((show Below WQ.heap.size WQ _ from (by (with_reducible repeat' (first | exact .refl _ _ | assumption | refine bmP ?_ ?_ | refine baP ?_ _ ?_ | refine .drew ?_ | refine .setCell ?_ ?_ _ | refine bdP ?_ _)) <;> go_size)).mono HQ.out.size)⟩
  · have HY := Lib.hid (hyes rfl)
    clear hno hyes
    go_enter Tryz.func4, Tryz.ntmps4
    go_wp2_with (first | (go_at_call 6; refine (table_New _).mono ?_; rintro e w1 ⟨rfl, hF, hb⟩; have HF := Lib.hid hF; have HB1 := Lib.hid hb; clear hF hb) | (go_at_call 7; refine (law_knownF w.heap.size w1 (.inr HF.out)).mono ?_; rintro e w2 ⟨rfl, hR, hT2⟩; have HB2 := Lib.hid (HB1.out.trans (hT2.baseL (Nat.le_refl _) HB1.out.size)); have HR := Lib.hid hR; have hws := HB2.out.size; clear hR hT2) | (go_at_call 8; refine (HT.out _ _ HR.out HB2.out).mono ?_; rintro e w3 ⟨rfl, hb⟩; obtain ⟨l3, q3, rfl⟩ := more_of_below hb; clear hb) | (go_at_call 17; refine (HA.out _ (HB2.out.trans ((show Below w2.heap.size w2 _ from (by (with_reducible repeat' (first | exact .refl _ _ | assumption | refine bmP ?_ ?_ | refine baP ?_ _ ?_ | refine .drew ?_ | refine .setCell ?_ ?_ _ | refine bdP ?_ _)) <;> go_size)).mono HB2.out.size))).mono ?_; rintro e w4 ⟨v4, rfl, hb⟩; obtain ⟨l4, q4, rfl⟩ := more_of_below hb; clear hb) | (go_at_call 18; refine (ref02_May R HLO.out _).mono ?_; rw [HM.out]; rintro e w5 ⟨rfl, hb⟩; obtain ⟨l5, q5, rfl⟩ := more_of_below hb; clear hb))
    obtain ⟨WQ, hWQ⟩ : ∃ WQ, WQ = more ((more w2 l3 q3).alloc (.cells #[.int .i64 R.tag, .int .i64 R.num, .string R.str, .bool R.is, .int .i64 R.code] 29)) (l4 ++ l5) q5 := ⟨_, rfl⟩
    rw [← hWQ]
    have c0 : WQ.cell? ⟨w2.heap.size + l3.length, 0, none⟩ = some (.int .i64 R.tag) := by rw [hWQ]; go_simp
    have c1 : WQ.cell? ⟨w2.heap.size + l3.length, 1, none⟩ = some (.int .i64 R.num) := by rw [hWQ]; go_simp
    have c2 : WQ.cell? ⟨w2.heap.size + l3.length, 2, none⟩ = some (.string R.str) := by rw [hWQ]; go_simp
    have c3 : WQ.cell? ⟨w2.heap.size + l3.length, 3, none⟩ = some (.bool R.is) := by rw [hWQ]; go_simp
    have c4 : WQ.cell? ⟨w2.heap.size + l3.length, 4, none⟩ = some (.int .i64 R.code) := by rw [hWQ]; go_simp
    have cl : w2.heap.size + l3.length < WQ.heap.size := World.block_lt_of_cell? WQ _ c0
    have hbq : Below w2.heap.size w2 WQ := by rw [hWQ]; exact (by (with_reducible repeat' (first | exact .refl _ _ | assumption | refine bmP ?_ ?_ | refine baP ?_ _ ?_ | refine .drew ?_ | refine .setCell ?_ ?_ _ | refine bdP ?_ _)) <;> go_size)
    have HQ := Lib.hid (HB2.out.trans (hbq.mono HB2.out.size))
    clear hWQ hbq
    have HIQ := Lib.hid (HI.out.below HQ.out)
    go_loop [11] (fun t => ∃ i : Nat, i ≤ n ∧ t = .int .i64 i ∧ ∀ j p, j < i → pl[j]? = some p → p.1.val.code ≠ 1 ∧ ∀ e ∈ p.2, e.v.code ≠ 1) (fun t => n - (intOf t).toNat)
    case atStart => exact ⟨0, Nat.zero_le _, rfl, fun j p hj => by omega⟩
    case round =>
      obtain ⟨i, hi, rfl, hall⟩ := hrel
      have HALL := Lib.hid hall
      clear hall
      by_cases hlt : i < n
      · obtain ⟨p, hp⟩ : ∃ p, pl[i]? = some p := ⟨_, List.getElem?_eq_getElem (show i < pl.length by omega)⟩
        obtain ⟨bk, off, rfl, _, hc⟩ := HIQ.out.hr.2 (by omega)
        have hcell : ∀ k u, p.1.cells[k]? = some u → WQ.cell? ⟨bk, off + (i * 11 + k), none⟩ = some u := fun k u hu => hc _ u (argFlat_at (pl.map Prod.fst) i p.1 (by rw [List.getElem?_map, hp]; rfl) k u hu)
        have p5 := hcell 5 _ rfl
        have p10 := hcell 10 _ rfl
        simp only [← Nat.add_assoc] at p5 p10
        have HE := Lib.hid (HIQ.out.hE p (List.mem_of_getElem? hp))
        have hn9 := HIQ.out.hn9 p (List.mem_of_getElem? hp)
        have HP := Lib.hid hp
        clear hcell hc hp
        by_cases h1 : p.1.val.code = 1
        · have h1' : (p.1.val.code == 1) = true := by simp [h1]
          clear h1
          go_wp2
          all_goals go_returns
          all_goals exact ⟨rfl, HQ.out⟩
        · have h1' : (p.1.val.code == 1) = false := by simp [h1]
          have H1 := Lib.hid h1
          clear h1
          obtain ⟨m, hmm⟩ : ∃ m, p.1.n = m := ⟨_, rfl⟩
          obtain ⟨B, hB⟩ : ∃ B, p.1.ents = B := ⟨_, rfl⟩
          obtain ⟨cc, hcc⟩ : ∃ cc, p.1.c = cc := ⟨_, rfl⟩
          rw [hmm, hB, hcc] at p10
          rw [hmm] at hn9
          have hel : p.2.length = m := by rw [← hmm]; exact HE.out.1
          have HER := Lib.hid (show Reads WQ WQ.heap.size 7 B m (flatC En.cells p.2) by rw [← hmm, ← hB]; exact HE.out.2)
          clear hmm hB hcc
          go_wp2
          go_loop [12] (fun t => ∃ k : Nat, k ≤ m ∧ t = .int .i64 k ∧ ∀ j e, j < k → p.2[j]? = some e → e.v.code ≠ 1) (fun t => m - (intOf t).toNat)
          case atStart => exact ⟨0, Nat.zero_le _, rfl, fun j e hj => by omega⟩
          case round =>
            obtain ⟨k, hk, rfl, hal2⟩ := hrel
            have HAL2 := Lib.hid hal2
            clear hal2
            by_cases hlt2 : k < m
            · obtain ⟨e, he⟩ : ∃ e, p.2[k]? = some e := ⟨_, List.getElem?_eq_getElem (show k < p.2.length by omega)⟩
              obtain ⟨bk2, off2, rfl, _, hc2⟩ := HER.out.2 (by omega)
              have e6 := hc2 _ _ (flatC_at En.cells 7 (fun _ => rfl) p.2 k e he 6 _ rfl)
              simp only [← Nat.add_assoc] at e6
              have HEK := Lib.hid he
              clear hc2 he
              by_cases h2 : e.v.code = 1
              · have h2' : (e.v.code == 1) = true := by simp [h2]
                clear h2
                go_wp2
                all_goals go_returns
                all_goals exact ⟨rfl, HQ.out⟩
              · have h2' : (e.v.code == 1) = false := by simp [h2]
                have H2 := Lib.hid h2
                clear h2
                go_wp2
                go_round
                case rel => exact ⟨k + 1, by omega, by go_num, fun j x hj hx => by
                  by_cases ej : j = k
                  · subst ej
                    rw [HEK.out] at hx
                    cases hx
                    exact H2.out
                  · exact HAL2.out j x (by omega) hx⟩
                case measure => simp [intOf]; omega
            · obtain rfl : k = m := by omega
              go_wp2
              go_round
              case rel => exact ⟨i + 1, by omega, by go_num, fun j x hj hx => by
                by_cases ej : j = i
                · subst ej
                  rw [HP.out] at hx
                  cases hx
                  refine ⟨H1.out, fun e he => ?_⟩
                  obtain ⟨q, hq⟩ := List.getElem?_of_mem he
                  exact HAL2.out q e (by have := (List.getElem?_eq_some_iff.1 hq).1; omega) hq
                · exact HALL.out j x (by omega) hx⟩
              case measure => simp [intOf]; omega
      · obtain rfl : i = n := by omega
        have hR1 := HY.out (fun p hp => by
          obtain ⟨j, hj⟩ := List.getElem?_of_mem hp
          exact HALL.out j p (by have := (List.getElem?_eq_some_iff.1 hj).1; omega) hj)
        have hR2 : (R.code != 1) = true := by simpa using hR1
        clear hR1
        go_wp2
        all_goals go_returns
        all_goals exact ⟨rfl, HQ.out⟩
end Go.Proofs.YtegbhdeaicgpkaaGreatDoor
