/-
  Parts of a proof: NumsD, NumsE.
-/
import Derived.Test.YtegbhdeaicgpkaaGreatDoorJ16
import Derived.Test.YtegbhdeaicgpkaaGreatDoorJ21
set_option linter.all false
namespace Go.Proofs.YtegbhdeaicgpkaaGreatDoor
open Go Go.RowKit
def truncX (x n : Int) : Int := if 3 < n then x else if n < -14 then 0 else x.tdiv (10 ^ (4 - n).toNat) * 10 ^ (4 - n).toNat
theorem pow10_lt (j : Nat) (h : j ≤ 18) : (10 : Int) ^ j ≤ 1000000000000000000 := by
  have : j = 0 ∨ j = 1 ∨ j = 2 ∨ j = 3 ∨ j = 4 ∨ j = 5 ∨ j = 6 ∨ j = 7 ∨ j = 8 ∨ j = 9 ∨ j = 10 ∨ j = 11 ∨ j = 12 ∨ j = 13 ∨ j = 14 ∨ j = 15 ∨ j = 16 ∨ j = 17 ∨ j = 18 := by omega
  rcases this with rfl | rfl | rfl | rfl | rfl | rfl | rfl | rfl | rfl | rfl | rfl | rfl | rfl | rfl | rfl | rfl | rfl | rfl | rfl <;> decide
theorem pow10_lt19 (j : Nat) (h : j ≤ 19) : (10 : Nat) ^ j ≤ 10000000000000000000 := by
  have : j ≤ 18 ∨ j = 19 := by omega
  rcases this with h | rfl
  · have h1 := pow10_lt j h
    have h2 : ((10 ^ j : Nat) : Int) = (10 : Int) ^ j := by norm_cast
    omega
  · decide
theorem pow10_pos (j : Nat) : 1 ≤ (10 : Int) ^ j := by
  have : 0 < (10 : Int) ^ j := Int.pow_pos (by decide)
  omega
set_option maxRecDepth 100000 in
set_option maxHeartbeats 400000 in
theorem nums_trunc (x n : Int) (hx : In63 x) (hn : Is64 n) (w : World) : Calls Tryz.prog 62 #[.int .i64 x, .int .i64 n] w fun e w' => e = .returned (.tuple #[.int .i64 (truncX x n), .int .i64 0]) ∧ w = w' := by
  unfold truncX
  by_cases h1 : 3 < n
  · rw [if_pos h1]
    go_enter Tryz.func62, Tryz.ntmps62
    go_wp2
    go_returns
    exact ⟨rfl, rfl⟩
  · rw [if_neg h1]
    by_cases h2 : n < -14
    · rw [if_pos h2]
      go_enter Tryz.func62, Tryz.ntmps62
      go_wp2
      go_returns
      exact ⟨rfl, rfl⟩
    · rw [if_neg h2]
      obtain ⟨m, hm⟩ : ∃ m : Nat, (4 - n).toNat = m := ⟨_, rfl⟩
      have hm2 : IntKind.i64.wrap (4 - n) = m := by rw [IntKind.wrap_i64]; omega
      have hm18 : m ≤ 18 := by omega
      rw [hm]
      clear hn hm
      unfold In63 at hx
      have HX := Lib.hid hx
      clear hx
      go_enter Tryz.func62, Tryz.ntmps62
      go_wp2
      go_loop [14, 6] (fun t u => ∃ j : Nat, j ≤ m ∧ t = .int .i64 j ∧ u = .int .i64 (10 ^ j)) (fun t _ => m - (intOf t).toNat)
      case atStart => exact ⟨0, Nat.zero_le _, rfl, rfl⟩
      case round =>
        obtain ⟨j, hj, rfl, rfl⟩ := hrel
        by_cases hlt : j < m
        · have hp := pow10_lt (j + 1) (by omega)
          have hp0 := pow10_pos j
          have hs : (10 : Int) ^ (j + 1) = 10 ^ j * 10 := Int.pow_succ _ _
          have hw : IntKind.i64.wrap ((10 : Int) ^ j * 10) = 10 ^ (j + 1) := by rw [IntKind.wrap_i64, hs]; omega
          go_wp2
          go_round
          case rel => exact ⟨j + 1, by omega, by go_num, by first | rfl | rw [hw]⟩
          case measure => simp [intOf]; omega
        · obtain rfl : j = m := by omega
          have hp := pow10_lt j hm18
          have hp0 := pow10_pos j
          obtain ⟨u, hu⟩ : ∃ u, (10 : Int) ^ j = u := ⟨_, rfl⟩
          rw [hu] at hp hp0 ⊢
          have hne : u ≠ 0 := by omega
          have hq : (x.tdiv u * u).natAbs ≤ x.natAbs := by rw [Int.natAbs_mul, Int.natAbs_tdiv]; exact Nat.div_mul_le_self _ _
          have hX := HX.out
          have hq1 : (x.tdiv u).natAbs ≤ x.natAbs := by rw [Int.natAbs_tdiv]; exact Nat.div_le_self _ _
          have hw : wrap64 (x.tdiv u * u) = x.tdiv u * u := by unfold wrap64; omega
          have hw1 : wrap64 (x.tdiv u) = x.tdiv u := by unfold wrap64; omega
          clear hX hq hq1
          go_wp2
          go_returns
          exact ⟨by simp only [hw1, hw]; rfl, rfl⟩
def upN (n u : Nat) : Nat := if u - n % u ≤ n % u then n / u + 1 else n / u
def roundN (n u : Nat) (low : Bool) : Int × Int := if 18446744073709551616 ≤ upN n u * u then (0, 2) else signX (upN n u * u) low
def roundX (x p : Int) : Int × Int := if x = minI then (0, 2) else if 4 ≤ p then (x, 0) else if p < -15 then (0, 0) else roundN x.natAbs (10 ^ (4 - p).toNat) (lowX x)
set_option maxRecDepth 100000 in
set_option maxHeartbeats 400000 in
theorem dec_Round (x p : Int) (hx : Is64 x) (hn : Is64 p) (w : World) : Calls Tryz.prog 63 #[.int .i64 x, .int .i64 p] w fun e w' => e = .returned (.tuple #[.int .i64 (roundX x p).1, .int .i64 (roundX x p).2]) ∧ Below w.heap.size w w' := by
  unfold roundX
  by_cases h0 : x = minI
  · rw [if_pos h0]
    have k1 : (x != minI) = false := by simp [h0]
    clear h0
    go_enter Tryz.func63, Tryz.ntmps63
    go_wp2_with (first | (go_at_call 102; refine (dec_May _ _).mono ?_; rintro e w1 ⟨rfl, rfl⟩))
    go_returns
    exact ⟨rfl, (by (with_reducible repeat' (first | exact .refl _ _ | assumption | refine bmP ?_ ?_ | refine baP ?_ _ ?_ | refine .drew ?_ | refine .setCell ?_ ?_ _ | refine bdP ?_ _)) <;> go_size)⟩
  · rw [if_neg h0]
    have k1 : (x != minI) = true := by simp [h0]
    by_cases h1 : 4 ≤ p
    · rw [if_pos h1]
      clear h0
      go_enter Tryz.func63, Tryz.ntmps63
      go_wp2_with (first | (go_at_call 102; refine (dec_May _ _).mono ?_; rintro e w1 ⟨rfl, rfl⟩))
      go_returns
      exact ⟨rfl, (by (with_reducible repeat' (first | exact .refl _ _ | assumption | refine bmP ?_ ?_ | refine baP ?_ _ ?_ | refine .drew ?_ | refine .setCell ?_ ?_ _ | refine bdP ?_ _)) <;> go_size)⟩
    · rw [if_neg h1]
      by_cases h2 : p < -15
      · rw [if_pos h2]
        clear h0
        go_enter Tryz.func63, Tryz.ntmps63
        go_wp2_with (first | (go_at_call 102; refine (dec_May _ _).mono ?_; rintro e w1 ⟨rfl, rfl⟩))
        go_returns
        exact ⟨rfl, (by (with_reducible repeat' (first | exact .refl _ _ | assumption | refine bmP ?_ ?_ | refine baP ?_ _ ?_ | refine .drew ?_ | refine .setCell ?_ ?_ _ | refine bdP ?_ _)) <;> go_size)⟩
      · rw [if_neg h2]
        obtain ⟨m, hm⟩ : ∃ m : Nat, (4 - p).toNat = m := ⟨_, rfl⟩
        have hm2 : IntKind.i64.wrap (4 - p) = m := by rw [IntKind.wrap_i64]; omega
        have hm19 : m ≤ 19 := by omega
        rw [hm]
        obtain ⟨n, hnn⟩ : ∃ n, x.natAbs = n := ⟨_, rfl⟩
        have hn63 : n ≤ 9223372036854775808 := by unfold Is64 at hx; omega
        rw [hnn]
        obtain ⟨R, hR⟩ : ∃ R, roundN n (10 ^ m) (lowX x) = R := ⟨_, rfl⟩
        rw [hR]
        have HX := Lib.hid hx
        have HN := Lib.hid hnn
        have HR := Lib.hid hR
        clear hn hm hx h0 hnn hR
        go_enter Tryz.func63, Tryz.ntmps63
        go_wp2_with (first | (go_at_call 102; refine (dec_May _ _).mono ?_; rintro e w1 ⟨rfl, rfl⟩))
        go_loop [25, 6] (fun t u => ∃ j : Nat, j ≤ m ∧ t = .int .i64 j ∧ u = .int .u64 ((10 ^ j : Nat) : Int)) (fun t _ => m - (intOf t).toNat)
        case atStart => exact ⟨0, Nat.zero_le _, rfl, rfl⟩
        case round =>
          obtain ⟨j, hj, rfl, rfl⟩ := hrel
          by_cases hlt : j < m
          · have hp := pow10_lt19 (j + 1) (by omega)
            have hs : (10 : Nat) ^ (j + 1) = 10 ^ j * 10 := Nat.pow_succ _ _
            obtain ⟨v, hv⟩ : ∃ v, (10 : Nat) ^ j = v := ⟨_, rfl⟩
            rw [hs, hv] at hp
            have hw : IntKind.u64.wrap ((v : Int) * 10) = ((v * 10 : Nat) : Int) := by rw [IntKind.wrap_u64]; omega
            rw [hv]
            go_wp2
            go_round
            case rel => exact ⟨j + 1, by omega, by go_num, by rw [hs, hv]; first | rfl | (rw [hw]; done) | go_num⟩
            case measure => simp [intOf]; omega
          · obtain rfl : j = m := by omega
            have hp := pow10_lt19 j hm19
            have hp0 : 0 < 10 ^ j := Nat.pow_pos (by decide)
            obtain ⟨u, hu⟩ : ∃ u, (10 : Nat) ^ j = u := ⟨_, rfl⟩
            rw [hu] at hp hp0 ⊢
            have hne : (u : Int) ≠ 0 := by omega
            obtain ⟨q, hq⟩ : ∃ q, n / u = q := ⟨_, rfl⟩
            obtain ⟨r, hr⟩ : ∃ r, n % u = r := ⟨_, rfl⟩
            have hq1 : (n : Int) / (u : Int) = (q : Int) := by rw [← hq]; rfl
            have hr1 : (n : Int) % (u : Int) = (r : Int) := by rw [← hr]; rfl
            have hq2 : (n : Int).tdiv (u : Int) = (q : Int) := by rw [← hq]; rfl
            have hr2 : (n : Int).tmod (u : Int) = (r : Int) := by rw [← hr]; rfl
            have hru : r < u := by rw [← hr]; exact Nat.mod_lt _ hp0
            have hqn : q ≤ n := by rw [← hq]; exact Nat.div_le_self _ _
            have hw1 : IntKind.u64.wrap (q : Int) = q := by rw [IntKind.wrap_u64]; omega
            have hw2 : IntKind.u64.wrap ((u : Int) - (r : Int)) = ((u - r : Nat) : Int) := by rw [IntKind.wrap_u64]; omega
            have hw3 : IntKind.u64.wrap ((q : Int) + 1) = ((q + 1 : Nat) : Int) := by rw [IntKind.wrap_u64]; omega
            have hup : upN n u = if u - r ≤ r then q + 1 else q := by unfold upN; rw [hq, hr]
            obtain ⟨s, hs⟩ : ∃ s, upN n u = s := ⟨_, rfl⟩
            have hrn : R = if 18446744073709551616 ≤ s * u then (0, 2) else signX (s * u) (lowX x) := by rw [← HR.out, hu]; unfold roundN; rw [hs]
            rw [hs] at hup
            have hs64 : s < 18446744073709551616 := by rw [hup]; split <;> omega
            have hss : s = if u - r ≤ r then q + 1 else q := hup
            obtain ⟨hi, hhi⟩ : ∃ hi, s * u / 18446744073709551616 = hi := ⟨_, rfl⟩
            obtain ⟨lo, hlo⟩ : ∃ lo, s * u % 18446744073709551616 = lo := ⟨_, rfl⟩
            have HHI := Lib.hid hhi
            have HLO := Lib.hid hlo
            have US := Lib.hid (show u < 18446744073709551616 by omega)
            have HS := Lib.hid hs64
            clear hq hr hs hup HR
            by_cases hc : u - r ≤ r
            · rw [if_pos hc] at hss
              have hc' : ((u - r : Nat) : Int) ≤ (r : Int) := by omega
              have hqs : (q : Int) + 1 = (s : Int) := by omega
              clear hw3 hss
              by_cases hov : 18446744073709551616 ≤ s * u
              · rw [if_pos hov] at hrn
                have hd : (0 : Int) < (hi : Int) := by have := Nat.div_pos hov (by decide); omega
                subst hrn
                clear hov hhi hlo hs64
                go_wp2_with fail
                go_at_call 151
                refine (dec_size x HX.out _).mono ?_
                rw [HN.out]
                rintro e w1 ⟨rfl, rfl⟩
                go_wp2_with fail
                go_quiet (fail)
                all_goals go_wp2_with (first | (go_at_call 152; (try rw [hqs]); refine (Tryz.bits_Mul64 s u HS.out US.out _).mono ?_; rw [HHI.out, HLO.out]; rintro e w1 ⟨rfl, rfl⟩))
                all_goals go_returns
                all_goals exact ⟨rfl, (by (with_reducible repeat' (first | exact .refl _ _ | assumption | refine bmP ?_ ?_ | refine baP ?_ _ ?_ | refine .drew ?_ | refine .setCell ?_ ?_ _ | refine bdP ?_ _)) <;> go_size)⟩
              · rw [if_neg hov] at hrn
                have hd0 : s * u / 18446744073709551616 = 0 := Nat.div_eq_of_lt (by omega)
                have hd : ¬ (0 : Int) < (hi : Int) := by omega
                have hmod : s * u % 18446744073709551616 = s * u := Nat.mod_eq_of_lt (by omega)
                have hlo2 : s * u = lo := by omega
                have hlt2 : lo < 18446744073709551616 := by omega
                rw [hlo2] at hrn
                subst hrn
                clear hov hhi hlo hs64 hd0 hmod hlo2
                go_wp2_with fail
                go_at_call 151
                refine (dec_size x HX.out _).mono ?_
                rw [HN.out]
                rintro e w1 ⟨rfl, rfl⟩
                go_wp2_with fail
                go_quiet (fail)
                all_goals go_wp2_with (first | (go_at_call 152; (try rw [hqs]); refine (Tryz.bits_Mul64 s u HS.out US.out _).mono ?_; rw [HHI.out, HLO.out]; rintro e w1 ⟨rfl, rfl⟩) | (go_at_call 153; refine (dec_signed lo hlt2 _ _).mono ?_; rintro e w1 ⟨rfl, rfl⟩))
                all_goals go_returns
                all_goals exact ⟨rfl, (by (with_reducible repeat' (first | exact .refl _ _ | assumption | refine bmP ?_ ?_ | refine baP ?_ _ ?_ | refine .drew ?_ | refine .setCell ?_ ?_ _ | refine bdP ?_ _)) <;> go_size)⟩
            · rw [if_neg hc] at hss
              have hc' : ¬ ((u - r : Nat) : Int) ≤ (r : Int) := by omega
              subst hss
              by_cases hov : 18446744073709551616 ≤ s * u
              · rw [if_pos hov] at hrn
                have hd : (0 : Int) < (hi : Int) := by have := Nat.div_pos hov (by decide); omega
                subst hrn
                clear hov hhi hlo hs64
                go_wp2_with fail
                go_at_call 151
                refine (dec_size x HX.out _).mono ?_
                rw [HN.out]
                rintro e w1 ⟨rfl, rfl⟩
                go_wp2_with fail
                go_quiet (fail)
                all_goals go_wp2_with (first | (go_at_call 152; (try rw [hqs]); refine (Tryz.bits_Mul64 s u HS.out US.out _).mono ?_; rw [HHI.out, HLO.out]; rintro e w1 ⟨rfl, rfl⟩))
                all_goals go_returns
                all_goals exact ⟨rfl, (by (with_reducible repeat' (first | exact .refl _ _ | assumption | refine bmP ?_ ?_ | refine baP ?_ _ ?_ | refine .drew ?_ | refine .setCell ?_ ?_ _ | refine bdP ?_ _)) <;> go_size)⟩
              · rw [if_neg hov] at hrn
                have hd0 : s * u / 18446744073709551616 = 0 := Nat.div_eq_of_lt (by omega)
                have hd : ¬ (0 : Int) < (hi : Int) := by omega
                have hmod : s * u % 18446744073709551616 = s * u := Nat.mod_eq_of_lt (by omega)
                have hlo2 : s * u = lo := by omega
                have hlt2 : lo < 18446744073709551616 := by omega
                rw [hlo2] at hrn
                subst hrn
                clear hov hhi hlo hs64 hd0 hmod hlo2
                go_wp2_with fail
                go_at_call 151
                refine (dec_size x HX.out _).mono ?_
                rw [HN.out]
                rintro e w1 ⟨rfl, rfl⟩
                go_wp2_with fail
                go_quiet (fail)
                all_goals go_wp2_with (first | (go_at_call 152; (try rw [hqs]); refine (Tryz.bits_Mul64 s u HS.out US.out _).mono ?_; rw [HHI.out, HLO.out]; rintro e w1 ⟨rfl, rfl⟩) | (go_at_call 153; refine (dec_signed lo hlt2 _ _).mono ?_; rintro e w1 ⟨rfl, rfl⟩))
                all_goals go_returns
                all_goals exact ⟨rfl, (by (with_reducible repeat' (first | exact .refl _ _ | assumption | refine bmP ?_ ?_ | refine baP ?_ _ ?_ | refine .drew ?_ | refine .setCell ?_ ?_ _ | refine bdP ?_ _)) <;> go_size)⟩
end Go.Proofs.YtegbhdeaicgpkaaGreatDoor
namespace Go.Proofs.YtegbhdeaicgpkaaGreatDoor
open Go Go.RowKit
def fac : Nat → Nat
  | 0 => 1
  | n + 1 => fac n * (n + 1)
theorem fac_pos : ∀ n, 1 ≤ fac n
  | 0 => Nat.le_refl _
  | n + 1 => Nat.mul_le_mul (fac_pos n) (Nat.succ_le_succ (Nat.zero_le n))
theorem fac_mono {m n : Nat} (h : m ≤ n) : fac m ≤ fac n := by
  induction h with
  | refl => exact Nat.le_refl _
  | @step k _ ih => exact Nat.le_trans ih (Nat.le_mul_of_pos_right _ (Nat.succ_pos k))
theorem fac_small {i : Nat} (h : fac i ≤ 922337203685477) : i ≤ 17 := by
  rcases Nat.lt_or_ge 17 i with h1 | h1
  · have h2 : fac 18 ≤ fac i := fac_mono h1
    have h3 : fac 18 = 6402373705728000 := by decide
    omega
  · exact h1
def factX (x : Int) : V := if (wholeG x).2 = false ∨ (wholeG x).1 < 0 then errG 8 else wholeX (fac (wholeG x).1.toNat) false
theorem whole_64 (x : Int) (hx : Is64 x) : -922337203685478 ≤ (wholeG x).1 ∧ (wholeG x).1 ≤ 922337203685478 := by
  unfold wholeG
  unfold Is64 at hx
  have h1 : (x.tdiv 10000).natAbs = x.natAbs / 10000 := Int.natAbs_tdiv x 10000
  split
  · exact ⟨by simp, by simp⟩
  · dsimp only
    omega
set_option maxRecDepth 100000 in
set_option maxHeartbeats 400000 in
theorem nums_fact (x : Int) (hx : Is64 x) (g c : Nat) (w : World) (h0 : w.cell? ⟨g, 0, none⟩ = some (.int .i64 x)) : Calls Tryz.prog 75 #[.slice (some ⟨g, 0, none⟩) 1 c] w fun e w' => e = .returned (Value.agg #[Value.int .i64 (factX x).tag, Value.int .i64 (factX x).num, Value.string (factX x).str, Value.bool (factX x).is, Value.int .i64 (factX x).code]) ∧ Below w.heap.size w w' := by
  have hl : g < w.heap.size := World.block_lt_of_cell? w _ h0
  have HX := Lib.hid hx
  have hr := whole_64 x hx
  clear hx
  obtain ⟨n, hn⟩ : ∃ n, (wholeG x).1 = n := ⟨_, rfl⟩
  obtain ⟨b, hb⟩ : ∃ b, (wholeG x).2 = b := ⟨_, rfl⟩
  unfold factX
  rw [hn, hb]
  rw [hn] at hr
  have HN := Lib.hid hn
  have HB := Lib.hid hb
  clear hn hb
  by_cases h : b = false ∨ n < 0
  · rw [if_pos h]
    cases b
    · go_enter Tryz.func75, Tryz.ntmps75
      go_wp2_with (first | (go_at_call 36; refine (dec_Whole x HX.out.1 HX.out.2 _).mono ?_; rw [HN.out, HB.out]; rintro e w1 ⟨rfl, rfl⟩) | (go_at_call 27; refine (value_Err _ _).mono ?_; rintro e w1 ⟨rfl, hb⟩; obtain ⟨l, m, rfl⟩ := more_of_below hb; clear hb))
      all_goals go_returns
      all_goals exact ⟨rfl, (by (with_reducible repeat' (first | exact .refl _ _ | assumption | refine bmP ?_ ?_ | refine baP ?_ _ ?_ | refine .drew ?_ | refine .setCell ?_ ?_ _ | refine bdP ?_ _)) <;> go_size)⟩
    · have h' : n < 0 := by simpa using h
      clear h
      go_enter Tryz.func75, Tryz.ntmps75
      go_wp2_with (first | (go_at_call 36; refine (dec_Whole x HX.out.1 HX.out.2 _).mono ?_; rw [HN.out, HB.out]; rintro e w1 ⟨rfl, rfl⟩) | (go_at_call 27; refine (value_Err _ _).mono ?_; rintro e w1 ⟨rfl, hb⟩; obtain ⟨l, m, rfl⟩ := more_of_below hb; clear hb))
      all_goals go_returns
      all_goals exact ⟨rfl, (by (with_reducible repeat' (first | exact .refl _ _ | assumption | refine bmP ?_ ?_ | refine baP ?_ _ ?_ | refine .drew ?_ | refine .setCell ?_ ?_ _ | refine bdP ?_ _)) <;> go_size)⟩
  · rw [if_neg h]
    have hb' : b = true := by cases b <;> simp_all
    have h' : ¬ n < 0 := fun e => h (.inr e)
    subst hb'
    clear h
    obtain ⟨k, hk⟩ : ∃ k : Nat, n = k := ⟨n.toNat, by omega⟩
    subst hk
    rw [Int.toNat_natCast]
    obtain ⟨R, hR⟩ : ∃ R, wholeX (fac k) false = R := ⟨_, rfl⟩
    rw [hR]
    have HR := Lib.hid hR
    clear hR
    go_enter Tryz.func75, Tryz.ntmps75
    go_wp2_with (first | (go_at_call 36; refine (dec_Whole x HX.out.1 HX.out.2 _).mono ?_; rw [HN.out, HB.out]; rintro e w1 ⟨rfl, rfl⟩))
    go_loop [6, 5] (fun t u => ∃ i : Nat, 1 ≤ i ∧ (i ≤ k ∨ i = 1) ∧ t = .int .i64 ((i + 1 : Nat) : Int) ∧ u = .int .u64 ((fac i : Nat) : Int) ∧ fac i ≤ 922337203685477) (fun t _ => k + 1 - (intOf t).toNat)
    case atStart => exact ⟨1, by omega, by omega, rfl, rfl, by decide⟩
    case round =>
      obtain ⟨i, hi, hik, rfl, rfl, hf⟩ := hrel
      have hs := fac_small hf
      by_cases hlt : i + 1 ≤ k
      · have hlt' : ((i + 1 : Nat) : Int) ≤ (k : Int) := by omega
        have hm : fac (i + 1) = fac i * (i + 1) := rfl
        obtain ⟨f, hff⟩ : ∃ f, fac i = f := ⟨_, rfl⟩
        obtain ⟨f2, hff2⟩ : ∃ f2, fac (i + 1) = f2 := ⟨_, rfl⟩
        have hb1 : f * (i + 1) ≤ 922337203685477 * 18 := Nat.mul_le_mul (by omega) (by omega)
        obtain ⟨q, hq⟩ : ∃ q, i + 1 = q := ⟨_, rfl⟩
        rw [hff, hff2] at hm
        rw [hff]
        rw [hq] at hm hb1 hlt' ⊢
        have hm' : (f : Int) * (q : Int) = (f2 : Int) := by rw [hm]; simp
        have hf2 : f2 < 18446744073709551616 := by omega
        have hf1 : f ≤ 922337203685477 := by omega
        have hq1 : q ≤ 18 := by omega
        have hq2 : 2 ≤ q := by omega
        have HF := Lib.hid hff2
        have HQ := Lib.hid hq
        have HT := Lib.hid hlt
        have HI := Lib.hid hi
        have hu : IntKind.u64.wrap (q : Int) = q := by rw [IntKind.wrap_u64]; omega
        have hu2 : IntKind.u64.wrap (f2 : Int) = f2 := by rw [IntKind.wrap_u64]; omega
        by_cases ho : 922337203685477 < f2
        · have ho' : (922337203685477 : Int) < (f2 : Int) := by omega
          have hR2 : R = errG 2 := by
            rw [← HR.out]
            have h5 : f2 ≤ fac k := by rw [← hff2]; exact fac_mono hlt
            unfold wholeX
            rw [if_pos (by omega)]
          subst hR2
          clear HR hm hff hff2 hq hb1 hf hs hi hik hlt ho
          go_wp2_with (first | (go_at_call 27; refine (value_Err _ _).mono ?_; rintro e w1 ⟨rfl, hb⟩; obtain ⟨l, m, rfl⟩ := more_of_below hb; clear hb))
          go_returns
          exact ⟨rfl, (by (with_reducible repeat' (first | exact .refl _ _ | assumption | refine bmP ?_ ?_ | refine baP ?_ _ ?_ | refine .drew ?_ | refine .setCell ?_ ?_ _ | refine bdP ?_ _)) <;> go_size)⟩
        · have ho' : ¬ (922337203685477 : Int) < (f2 : Int) := by omega
          clear hm hff hff2 hq hb1 hf hs hi hik hlt ho
          go_wp2
          go_round
          case rel =>
            have hq' := HQ.out
            have hf' := HF.out
            have ht' := HT.out
            have ho2 : f2 ≤ 922337203685477 := by omega
            exact ⟨i + 1, by omega, by omega, by go_num, by rw [hf'], by omega⟩
          case measure => have hq' := HQ.out; simp [intOf]; omega
      · have hlt' : ¬ ((i + 1 : Nat) : Int) ≤ (k : Int) := by omega
        have hR2 : R = wholeX (fac i) false := by
          rw [← HR.out]
          have : fac k = fac i := by
            rcases hik with h | h
            · have : i = k := by omega
              rw [this]
            · subst h
              have : k = 0 ∨ k = 1 := by omega
              rcases this with rfl | rfl <;> rfl
          rw [this]
        subst hR2
        clear HR
        go_wp2_with (first | (go_at_call 154; refine (nums_whole (fac i) (by omega) false _).mono ?_; rintro e w1 ⟨rfl, hb⟩; obtain ⟨l, m, rfl⟩ := more_of_below hb; clear hb))
        go_returns
        exact ⟨rfl, (by (with_reducible repeat' (first | exact .refl _ _ | assumption | refine bmP ?_ ?_ | refine baP ?_ _ ?_ | refine .drew ?_ | refine .setCell ?_ ?_ _ | refine bdP ?_ _)) <;> go_size)⟩
def bitN (j : Nat) : Nat := 1099511627776 / 2 ^ j
def sqN (N : Nat) : Nat → Nat
  | 0 => 0
  | j + 1 => if (sqN N j + bitN j) * (sqN N j + bitN j) ≤ N then sqN N j + bitN j else sqN N j
theorem bit_half (j : Nat) : bitN (j + 1) = bitN j / 2 := by
  unfold bitN
  rw [Nat.pow_succ, Nat.div_div_eq_div_mul]
theorem bit_zero (j : Nat) (h : 41 ≤ j) : bitN j = 0 := by
  unfold bitN
  refine Nat.div_eq_of_lt ?_
  calc 1099511627776 < 2 ^ 41 := by decide
    _ ≤ 2 ^ j := Nat.pow_le_pow_right (by decide) h
theorem bit_pos (j : Nat) (h : j < 41) : 0 < bitN j := by
  unfold bitN
  refine Nat.div_pos ?_ (Nat.pow_pos (by decide))
  calc 2 ^ j ≤ 2 ^ 40 := Nat.pow_le_pow_right (by decide) (by omega)
    _ = 1099511627776 := by decide
theorem sq_lt (N : Nat) : ∀ j, j ≤ 41 → sqN N j + 2 * bitN j ≤ 2199023255552
  | 0, _ => by show 0 + 2 * bitN 0 ≤ 2199023255552; decide
  | j + 1, h => by
    have ih := sq_lt N j (by omega)
    have hb := bit_half j
    unfold sqN
    split <;> omega
def sqrtX (x : Int) : Int × Int := if x = minI then (0, 2) else if x < 0 then (0, 8) else (((sqN (x.toNat * 40000) 41 + 1) / 2 : Nat), 0)
set_option maxRecDepth 100000 in
set_option maxHeartbeats 400000 in
theorem dec_Sqrt (x : Int) (hx : Is64 x) (w : World) : Calls Tryz.prog 72 #[.int .i64 x] w fun e w' => e = .returned (.tuple #[.int .i64 (sqrtX x).1, .int .i64 (sqrtX x).2]) ∧ Below w.heap.size w w' := by
  unfold sqrtX
  by_cases h0 : x = minI
  · rw [if_pos h0]
    have k1 : (x != minI) = false := by simp [h0]
    clear h0
    go_enter Tryz.func72, Tryz.ntmps72
    go_wp2_with (first | (go_at_call 102; refine (dec_May _ _).mono ?_; rintro e w1 ⟨rfl, rfl⟩))
    go_returns
    exact ⟨rfl, (by (with_reducible repeat' (first | exact .refl _ _ | assumption | refine bmP ?_ ?_ | refine baP ?_ _ ?_ | refine .drew ?_ | refine .setCell ?_ ?_ _ | refine bdP ?_ _)) <;> go_size)⟩
  · rw [if_neg h0]
    have k1 : (x != minI) = true := by simp [h0]
    by_cases h1 : x < 0
    · rw [if_pos h1]
      clear h0
      go_enter Tryz.func72, Tryz.ntmps72
      go_wp2_with (first | (go_at_call 102; refine (dec_May _ _).mono ?_; rintro e w1 ⟨rfl, rfl⟩))
      go_returns
      exact ⟨rfl, (by (with_reducible repeat' (first | exact .refl _ _ | assumption | refine bmP ?_ ?_ | refine baP ?_ _ ?_ | refine .drew ?_ | refine .setCell ?_ ?_ _ | refine bdP ?_ _)) <;> go_size)⟩
    · rw [if_neg h1]
      obtain ⟨n, hn⟩ : ∃ n : Nat, x = n := ⟨x.toNat, by omega⟩
      subst hn
      have hn63 : n ≤ 9223372036854775807 := by unfold Is64 at hx; omega
      rw [Int.toNat_natCast]
      obtain ⟨N, hN⟩ : ∃ N, n * 40000 = N := ⟨_, rfl⟩
      rw [hN]
      obtain ⟨hi, hhi⟩ : ∃ hi, N / 18446744073709551616 = hi := ⟨_, rfl⟩
      obtain ⟨lo, hlo⟩ : ∃ lo, N % 18446744073709551616 = lo := ⟨_, rfl⟩
      obtain ⟨R, hR⟩ : ∃ R, (sqN N 41 + 1) / 2 = R := ⟨_, rfl⟩
      rw [hR]
      have HR := Lib.hid hR
      have HN := Lib.hid hN
      have HHI := Lib.hid hhi
      have HLO := Lib.hid hlo
      have H63 := Lib.hid hn63
      have hu : IntKind.u64.wrap (n : Int) = n := by rw [IntKind.wrap_u64]; omega
      clear hR hN hhi hlo hn63 hx h0
      go_enter Tryz.func72, Tryz.ntmps72
      go_wp2_with (first | (go_at_call 102; refine (dec_May _ _).mono ?_; rintro e w1 ⟨rfl, rfl⟩) | (go_at_call 152; refine (Tryz.bits_Mul64 n 40000 (by have := H63.out; omega) (by decide) _).mono ?_; rw [HN.out, HHI.out, HLO.out]; rintro e w1 ⟨rfl, rfl⟩))
      go_loop [7, 6] (fun t u => ∃ j : Nat, j ≤ 41 ∧ t = .int .u64 ((bitN j : Nat) : Int) ∧ u = .int .u64 ((sqN N j : Nat) : Int)) (fun t _ => (intOf t).toNat)
      case atStart => exact ⟨0, by omega, rfl, rfl⟩
      case round =>
        obtain ⟨j, hj, rfl, rfl⟩ := hrel
        by_cases hlt : j < 41
        · have hb := bit_pos j hlt
          have hh := bit_half j
          have hs := sq_lt N j hj
          have hq : sqN N (j + 1) = if (sqN N j + bitN j) * (sqN N j + bitN j) ≤ N then sqN N j + bitN j else sqN N j := rfl
          obtain ⟨b, hbb⟩ : ∃ b, bitN j = b := ⟨_, rfl⟩
          obtain ⟨h, hhh⟩ : ∃ h, sqN N j = h := ⟨_, rfl⟩
          obtain ⟨b2, hb2⟩ : ∃ b2, bitN (j + 1) = b2 := ⟨_, rfl⟩
          obtain ⟨h2, hh2⟩ : ∃ h2, sqN N (j + 1) = h2 := ⟨_, rfl⟩
          rw [hbb, hhh] at hs hq
          rw [hbb] at hb
          rw [hbb, hb2] at hh
          rw [hh2] at hq
          rw [hbb, hhh]
          have HB2 := Lib.hid hb2
          have HH2 := Lib.hid hh2
          obtain ⟨s, hss⟩ : ∃ s, h + b = s := ⟨_, rfl⟩
          rw [hss] at hq
          have hs1 : s ≤ 2199023255552 := by omega
          obtain ⟨p1, hp1⟩ : ∃ p, s * s / 18446744073709551616 = p := ⟨_, rfl⟩
          obtain ⟨p0, hp0⟩ : ∃ p, s * s % 18446744073709551616 = p := ⟨_, rfl⟩
          have HP1 := Lib.hid hp1
          have HP0 := Lib.hid hp0
          have HS := Lib.hid (show s < 18446744073709551616 by omega)
          have hcmp : (s * s ≤ N) ↔ (p1 < hi ∨ p1 = hi ∧ p0 ≤ lo) := by
            have e1 := HHI.out
            have e2 := HLO.out
            constructor <;> intro h <;> omega
          have hb0 : (0 : Int) < (b : Int) := by omega
          have hhb : (h : Int) + (b : Int) = (s : Int) := by omega
          clear hbb hhh hb2 hh2 hp1 hp0
          by_cases ha : p1 < hi
          · have ha' : (p1 : Int) < (hi : Int) := by omega
            rw [if_pos (hcmp.2 (.inl ha))] at hq
            have HV := Lib.hid (show h2 = s from hq)
            clear hq
            go_wp2_with (first | (go_at_call 152; refine (Tryz.bits_Mul64 s s HS.out HS.out _).mono ?_; rw [HP1.out, HP0.out]; rintro e w1 ⟨rfl, rfl⟩))
            go_round
            case rel => exact ⟨j + 1, by omega, by rw [HB2.out, hh]; first | rfl | go_num, by rw [HH2.out, HV.out]⟩
            case measure => simp [intOf]; omega
          · have ha' : ¬ (p1 : Int) < (hi : Int) := by omega
            by_cases he : p1 = hi
            · by_cases hl : p0 ≤ lo
              · have hl' : (p0 : Int) ≤ (lo : Int) := by omega
                rw [if_pos (hcmp.2 (.inr ⟨he, hl⟩))] at hq
                subst he
                clear hcmp
                have HV := Lib.hid (show h2 = s from hq)
                clear hq
                go_wp2_with (first | (go_at_call 152; refine (Tryz.bits_Mul64 s s HS.out HS.out _).mono ?_; rw [HP1.out, HP0.out]; rintro e w1 ⟨rfl, rfl⟩))
                go_round
                case rel => exact ⟨j + 1, by omega, by rw [HB2.out, hh]; first | rfl | go_num, by rw [HH2.out, HV.out]⟩
                case measure => simp [intOf]; omega
              · have hl' : ¬ (p0 : Int) ≤ (lo : Int) := by omega
                rw [if_neg (fun h => (hcmp.1 h).elim ha (fun h => hl h.2))] at hq
                subst he
                clear hcmp
                have HV := Lib.hid (show h2 = h from hq)
                clear hq
                go_wp2_with (first | (go_at_call 152; refine (Tryz.bits_Mul64 s s HS.out HS.out _).mono ?_; rw [HP1.out, HP0.out]; rintro e w1 ⟨rfl, rfl⟩))
                go_round
                case rel => exact ⟨j + 1, by omega, by rw [HB2.out, hh]; first | rfl | go_num, by rw [HH2.out, HV.out]⟩
                case measure => simp [intOf]; omega
            · have he' : ¬ (p1 : Int) = (hi : Int) := by omega
              rw [if_neg (fun h => (hcmp.1 h).elim ha (fun h => he h.1))] at hq
              have HV := Lib.hid (show h2 = h from hq)
              clear hq
              go_wp2_with (first | (go_at_call 152; refine (Tryz.bits_Mul64 s s HS.out HS.out _).mono ?_; rw [HP1.out, HP0.out]; rintro e w1 ⟨rfl, rfl⟩))
              go_round
              case rel => exact ⟨j + 1, by omega, by rw [HB2.out, hh]; first | rfl | go_num, by rw [HH2.out, HV.out]⟩
              case measure => simp [intOf]; omega
        · obtain rfl : j = 41 := by omega
          have hb := bit_zero 41 (Nat.le_refl _)
          have hs := sq_lt N 41 (Nat.le_refl _)
          have hR := HR.out
          obtain ⟨h, hhh⟩ : ∃ h, sqN N 41 = h := ⟨_, rfl⟩
          rw [hb, hhh] at hs
          rw [hhh] at hR
          rw [hb, hhh]
          subst hR
          clear hhh HR
          go_wp2
          go_returns
          exact ⟨rfl, (by (with_reducible repeat' (first | exact .refl _ _ | assumption | refine bmP ?_ ?_ | refine baP ?_ _ ?_ | refine .drew ?_ | refine .setCell ?_ ?_ _ | refine bdP ?_ _)) <;> go_size)⟩
end Go.Proofs.YtegbhdeaicgpkaaGreatDoor
