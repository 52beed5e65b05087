/-
  Parts of a proof: OpsM, OpsD, OpsE.
-/
import Derived.Test.YtegbhdeaicgpkaaGreatDoorJ15
import Derived.Test.YtegbhdeaicgpkaaGreatDoorJ19
import Derived.Test.YtegbhdeaicgpkaaGreatDoorJ20
import Derived.Deep.DeepCutAuto
import Derived.Deep.CutBlock
set_option linter.all false
namespace Go.Proofs.YtegbhdeaicgpkaaGreatDoor
open Go Go.RowKit
theorem div64_zero (lo y : Nat) (h : 0 < y) (hl : lo < 18446744073709551616) (hy : y < 18446744073709551616) (w : World) : Calls Tryz.prog 186 #[.int .u64 0, .int .u64 lo, .int .u64 y] w fun e w' => e = .returned (.tuple #[.int .u64 ((lo / y : Nat) : Int), .int .u64 ((lo % y : Nat) : Int)]) ∧ Below w.heap.size w w' := by
  have h0 : ((y : Int) == 0) = false := by simp; omega
  have h0' : ¬ (y : Int) = 0 := by omega
  have h1 : ¬ (y : Int) ≤ 0 := by omega
  have hb : (lo : Int) / (y : Int) ≤ 18446744073709551615 := by rw [← Int.natCast_ediv]; have := Nat.div_le_self lo y; omega
  have hb0 : 0 ≤ (lo : Int) / (y : Int) := by rw [← Int.natCast_ediv]; exact Int.natCast_nonneg _
  go_enter Tryz.func186, Tryz.ntmps186
  go_wp2
  go_quiet (fail)
  all_goals go_wp2
  all_goals go_ret2
  all_goals refine ⟨?_, (by (with_reducible repeat' (first | exact .refl _ _ | assumption | refine bmP ?_ ?_ | refine baP ?_ _ ?_ | refine .drew ?_ | refine .setCell ?_ ?_ _ | refine bdP ?_ _)) <;> go_size)⟩
  all_goals (rw [Int.natCast_ediv, Int.natCast_emod]; rfl)
set_option maxHeartbeats 1000000 in
theorem bits_Div64 (hi lo y : Nat) (h0 : 0 < hi) (h : hi < y) (hl : lo < 18446744073709551616) (hy : y < 18446744073709551616) (w : World) : Calls Tryz.prog 186 #[.int .u64 hi, .int .u64 lo, .int .u64 y] w fun e w' => e = .returned (.tuple #[.int .u64 (((hi * 18446744073709551616 + lo) / y : Nat) : Int), .int .u64 (((hi * 18446744073709551616 + lo) % y : Nat) : Int)]) ∧ Below w.heap.size w w' := by
  have q0 : ((y : Int) == 0) = false := by simp; omega
  have q1 : ¬ (y : Int) ≤ hi := by omega
  have q2 : ((hi : Int) == 0) = false := by simp; omega
  obtain ⟨s, t, v, H, D, u, z, d1, d0, a, b, F⟩ := Div64.facts hi lo y h hl hy
  rw [F.quo, F.rem]
  have k1 := F.k1
  have k2 := F.k2
  have k3 := F.k3
  have k4 := F.k4
  have k5 := F.k5
  have k6 := F.k6
  have k7 := F.k7
  have k8 := F.k8
  have k9 := F.k9
  have k10 := F.k10
  have k11 := F.k11
  have k12 := F.k12
  have k13 := F.k13
  have v0 : 0 < v := by have := F.v0; omega
  have a0 : 0 < a := by have := F.ha; have := F.v0; omega
  have a1 : ((a : Int) == 0) = false := by simp; omega
  have a2 : ¬ (a : Int) = 0 := by omega
  obtain ⟨q, r, g1, g2, g3, hI⟩ := Div64.start_words F.v0 F.v1 F.uv F.ha F.h1
  obtain ⟨Q, hQ⟩ : ∃ Q, Q = (u * 4294967296 + d1) / v := ⟨_, rfl⟩
  obtain ⟨R, hR⟩ : ∃ R, R = (u * 4294967296 + d1) % v := ⟨_, rfl⟩
  obtain ⟨x1, x2, x3, g4, g5, g6, g7⟩ := Div64.left_words v0 F.v1 hQ
  rw [← hR] at g7
  have hRv : R < v := by rw [hR]; exact Nat.mod_lt _ v0
  obtain ⟨q', r', g8, g9, g10, hJ⟩ := Div64.start_words F.v0 F.v1 hRv F.ha F.h0
  obtain ⟨Q', hQ'⟩ : ∃ Q', Q' = (R * 4294967296 + d0) / v := ⟨_, rfl⟩
  obtain ⟨y1, y2, y3, g11, g12, g13, g14⟩ := Div64.left_words v0 F.v1 hQ'
  have b1 : Q < 4294967296 := by rw [hQ]; exact Div64.digit_lt F.uv F.h1
  have b2 : Q' < 4294967296 := by rw [hQ']; exact Div64.digit_lt hRv F.h0
  obtain ⟨z1, g15, g16⟩ := Div64.last_words b1 b2
  rw [← hQ, ← hR, ← hQ']
  obtain ⟨T, hT⟩ : ∃ T, T = (R * 4294967296 + d0) % v := ⟨_, rfl⟩
  rw [← hT] at g14 ⊢
  have HF := Lib.hid F
  have HRv := Lib.hid hRv
  have HI := Lib.hid hI
  have HJ := Lib.hid hJ
  have HQ := Lib.hid hQ
  have HQ' := Lib.hid hQ'
  clear F hI hJ hQ hQ' hR hT hRv b1 b2
  go_enter Tryz.func186, Tryz.ntmps186
  go_upto_block 0 with (go_at_call 235; refine (Tryz.bits_LeadingZeros64 y _ (by omega) (by omega)).mono ?_; rintro e w1 ⟨rfl, rfl⟩)
  go_cut [15] (fun s15 wx => s15 = .int .u64 Q ∧ wx = w1)
  case first =>
    go_wp2_with fail
    go_loopw [15, 16] (fun t wt wr => ∃ q r : Nat, t = .int .u64 q ∧ wt = .int .u64 r ∧ Div64.Inv v u d1 q r ∧ wr = w1) (fun t _ _ => (intOf t).toNat)
    case atStart => exact ⟨_, _, rfl, rfl, HI.out, rfl⟩
    case round =>
      obtain ⟨q, r, rfl, rfl, hK, rfl⟩ := hrel
      obtain ⟨m, x, e, f1, f2, f3, f4, f5⟩ := Div64.test_words hK HF.out.hb HF.out.h1
      by_cases c1 : 4294967296 ≤ q ∨ e < m
      · have hg := hK.great HF.out.uv HF.out.h1 (by rw [← f4, ← f5]; exact c1)
        have hq1 : 1 ≤ q := Nat.le_trans (Nat.le_add_left 1 _) hg
        obtain ⟨p, o, f6, f7, f8, f9⟩ := Div64.less_words hK HF.out.ha HF.out.v1 hq1
        have hlt : (intOf (.int .u64 p)).toNat < (intOf (.int .u64 q)).toNat := by show ((p : Nat) : Int).toNat < ((q : Nat) : Int).toNat; rw [Int.toNat_natCast, Int.toNat_natCast, f8]; exact Nat.sub_lt hq1 Nat.one_pos
        by_cases c2 : 4294967296 ≤ o
        · have hp : p = Q := by rw [f8, HQ.out]; exact hK.brk v0 hg (by rw [← f9]; exact c2)
          have c2i : (4294967296 : Int) ≤ o := by omega
          by_cases c3 : 4294967296 ≤ q
          · have c3i : (4294967296 : Int) ≤ q := by omega
            clear hK hg hlt c1 f4 f5 f8 f9 hq1
            go_wp2
            go_meet
            exact ⟨by first | rfl | rw [hp], rfl⟩
          · have c3i : ¬ (4294967296 : Int) ≤ q := by omega
            have c4i : (e : Int) < m := by omega
            clear hK hg hlt c1 f4 f5 f8 f9 hq1
            go_wp2
            go_meet
            exact ⟨by first | rfl | rw [hp], rfl⟩
        · have hN := Lib.hid (show Div64.Inv v u d1 p o from by rw [f8, f9]; exact hK.round hg (by rw [← f9]; omega))
          have c2i : ¬ (4294967296 : Int) ≤ o := by omega
          by_cases c3 : 4294967296 ≤ q
          · have c3i : (4294967296 : Int) ≤ q := by omega
            clear hK hg c1 f4 f5 f8 f9 hq1
            go_wp2
            exact ⟨⟨p, o, rfl, rfl, hN.out, by first | rfl | trivial⟩, hlt⟩
          · have c3i : ¬ (4294967296 : Int) ≤ q := by omega
            have c4i : (e : Int) < m := by omega
            clear hK hg c1 f4 f5 f8 f9 hq1
            go_wp2
            exact ⟨⟨p, o, rfl, rfl, hN.out, by first | rfl | trivial⟩, hlt⟩
      · have hp : q = Q := by rw [HQ.out]; exact hK.done v0 (by rw [← f4, ← f5]; omega)
        have c3i : ¬ (4294967296 : Int) ≤ q := by omega
        have c4i : ¬ (e : Int) < m := by omega
        clear hK c1 f4 f5
        subst hp
        go_wp2
        go_meet
        exact ⟨rfl, rfl⟩
  case rest =>
    obtain ⟨rfl, hwx⟩ := hcut
    obtain rfl := hwx
    clear HI
    go_upto_block 2 with fail
    go_cut [18] (fun s18 wx => s18 = .int .u64 Q' ∧ wx = wc)
    case first =>
      go_wp2_with fail
      go_loopw [18, 16] (fun t wt wr => ∃ q r : Nat, t = .int .u64 q ∧ wt = .int .u64 r ∧ Div64.Inv v R d0 q r ∧ wr = wc) (fun t _ _ => (intOf t).toNat)
      case atStart => exact ⟨_, _, rfl, rfl, HJ.out, rfl⟩
      case round =>
        obtain ⟨q, r, rfl, rfl, hK, rfl⟩ := hrel
        obtain ⟨m, x, e, f1, f2, f3, f4, f5⟩ := Div64.test_words hK HF.out.hb HF.out.h0
        by_cases c1 : 4294967296 ≤ q ∨ e < m
        · have hg := hK.great HRv.out HF.out.h0 (by rw [← f4, ← f5]; exact c1)
          have hq1 : 1 ≤ q := Nat.le_trans (Nat.le_add_left 1 _) hg
          obtain ⟨p, o, f6, f7, f8, f9⟩ := Div64.less_words hK HF.out.ha HF.out.v1 hq1
          have hlt : (intOf (.int .u64 p)).toNat < (intOf (.int .u64 q)).toNat := by show ((p : Nat) : Int).toNat < ((q : Nat) : Int).toNat; rw [Int.toNat_natCast, Int.toNat_natCast, f8]; exact Nat.sub_lt hq1 Nat.one_pos
          by_cases c2 : 4294967296 ≤ o
          · have hp : p = Q' := by rw [f8, HQ'.out]; exact hK.brk v0 hg (by rw [← f9]; exact c2)
            have c2i : (4294967296 : Int) ≤ o := by omega
            by_cases c3 : 4294967296 ≤ q
            · have c3i : (4294967296 : Int) ≤ q := by omega
              clear hK hg hlt c1 f4 f5 f8 f9 hq1
              go_wp2
              go_meet
              exact ⟨by first | rfl | rw [hp], rfl⟩
            · have c3i : ¬ (4294967296 : Int) ≤ q := by omega
              have c4i : (e : Int) < m := by omega
              clear hK hg hlt c1 f4 f5 f8 f9 hq1
              go_wp2
              go_meet
              exact ⟨by first | rfl | rw [hp], rfl⟩
          · have hN := Lib.hid (show Div64.Inv v R d0 p o from by rw [f8, f9]; exact hK.round hg (by rw [← f9]; omega))
            have c2i : ¬ (4294967296 : Int) ≤ o := by omega
            by_cases c3 : 4294967296 ≤ q
            · have c3i : (4294967296 : Int) ≤ q := by omega
              clear hK hg c1 f4 f5 f8 f9 hq1
              go_wp2
              exact ⟨⟨p, o, rfl, rfl, hN.out, by first | rfl | trivial⟩, hlt⟩
            · have c3i : ¬ (4294967296 : Int) ≤ q := by omega
              have c4i : (e : Int) < m := by omega
              clear hK hg c1 f4 f5 f8 f9 hq1
              go_wp2
              exact ⟨⟨p, o, rfl, rfl, hN.out, by first | rfl | trivial⟩, hlt⟩
        · have hp : q = Q' := by rw [HQ'.out]; exact hK.done v0 (by rw [← f4, ← f5]; omega)
          have c3i : ¬ (4294967296 : Int) ≤ q := by omega
          have c4i : ¬ (e : Int) < m := by omega
          clear hK c1 f4 f5
          subst hp
          go_wp2
          go_meet
          exact ⟨rfl, rfl⟩
    case rest =>
      obtain ⟨rfl, rfl⟩ := hcut
      clear HJ HQ HQ' HRv HF
      go_wp2
      go_ret2
      have c1 : ((Q * 4294967296 + Q' : Nat) : Int) = (Q : Int) * 4294967296 + (Q' : Int) := by omega
      have c2 : ((T / 2 ^ s : Nat) : Int) = (T : Int) / 2 ^ s := by simp
      refine ⟨?_, (by (with_reducible repeat' (first | exact .refl _ _ | assumption | refine bmP ?_ ?_ | refine baP ?_ _ ?_ | refine .drew ?_ | refine .setCell ?_ ?_ _ | refine bdP ?_ _)) <;> go_size)⟩
      rw [c1, c2]
      rfl
theorem Div64 (hi lo y : Nat) (h : hi < y) (hl : lo < 18446744073709551616) (hy : y < 18446744073709551616) (w : World) : Calls Tryz.prog 186 #[.int .u64 hi, .int .u64 lo, .int .u64 y] w fun e w' => e = .returned (.tuple #[.int .u64 (((hi * 18446744073709551616 + lo) / y : Nat) : Int), .int .u64 (((hi * 18446744073709551616 + lo) % y : Nat) : Int)]) ∧ Below w.heap.size w w' := by
  by_cases h0 : hi = 0
  · subst h0
    have h1 := div64_zero lo y h hl hy w
    rw [Nat.zero_mul, Nat.zero_add]
    exact h1
  · exact bits_Div64 hi lo y (by omega) h hl hy w
end Go.Proofs.YtegbhdeaicgpkaaGreatDoor
namespace Go.Proofs.YtegbhdeaicgpkaaGreatDoor
open Go Go.RowKit
theorem words_of (p : Nat) : p / 18446744073709551616 * 18446744073709551616 + p % 18446744073709551616 = p := by
  have := Nat.div_add_mod p 18446744073709551616
  omega
theorem signed_int (n : Nat) (x : Int) (hx : x = n) (h : n < 18446744073709551616) (low : Bool) (w : World) : Calls Tryz.prog 153 #[.int .u64 x, .bool low] w fun e w' => e = .returned (.tuple #[.int .i64 (signX n low).1, .int .i64 (signX n low).2]) ∧ w = w' := by
  subst hx
  exact dec_signed n h low w
theorem div_words (hi lo y q r : Nat) (h : hi < y) (hl : lo < 18446744073709551616) (hy : y < 18446744073709551616) (hq : (hi * 18446744073709551616 + lo) / y = q) (hr : (hi * 18446744073709551616 + lo) % y = r) (w : World) : Calls Tryz.prog 186 #[.int .u64 hi, .int .u64 lo, .int .u64 y] w fun e w' => e = .returned (.tuple #[.int .u64 q, .int .u64 r]) ∧ Below w.heap.size w w' := by
  have h1 := Div64 hi lo y h hl hy w
  rw [hq, hr] at h1
  exact h1
theorem div_scale (hi lo q r : Nat) (h : hi < 10000) (hl : lo < 18446744073709551616) (hq : (hi * 18446744073709551616 + lo) / 10000 = q) (hr : (hi * 18446744073709551616 + lo) % 10000 = r) (w : World) : Calls Tryz.prog 186 #[.int .u64 hi, .int .u64 lo, .int .u64 10000] w fun e w' => e = .returned (.tuple #[.int .u64 q, .int .u64 r]) ∧ Below w.heap.size w w' := by
  obtain ⟨y, hy⟩ : ∃ y : Nat, y = 10000 := ⟨_, rfl⟩
  rw [← hy] at h hq hr
  have h1 := div_words hi lo y q r h hl (by omega) hq hr w
  rw [show ((y : Nat) : Int) = 10000 by omega] at h1
  exact h1
set_option maxRecDepth 100000 in
set_option maxHeartbeats 1000000 in
theorem dec_Mul (a b : Int) (ha : Is64 a) (hb : Is64 b) (w : World) : Calls Tryz.prog 183 #[.int .i64 a, .int .i64 b] w fun e w' => e = .returned (.tuple #[.int .i64 (mulX a b).1, .int .i64 (mulX a b).2]) ∧ Below w.heap.size w w' := by
  by_cases h1 : a = minI
  · rw [show mulX a b = (0, 2) from if_pos (.inl h1)]
    clear ha hb
    go_enter Tryz.func183, Tryz.ntmps183
    go_wp2_with (go_at_call 102; refine (dec_May _ _).mono ?_; rintro e w1 ⟨rfl, rfl⟩)
    go_ret2
    exact ⟨rfl, (by (with_reducible repeat' (first | exact .refl _ _ | assumption | refine bmP ?_ ?_ | refine baP ?_ _ ?_ | refine .drew ?_ | refine .setCell ?_ ?_ _ | refine bdP ?_ _)) <;> go_size)⟩
  by_cases h2 : b = minI
  · rw [show mulX a b = (0, 2) from if_pos (.inr h2)]
    have m1 : (a != minI) = true := by simp [h1]
    clear ha hb
    go_enter Tryz.func183, Tryz.ntmps183
    go_wp2_with (go_at_call 102; refine (dec_May _ _).mono ?_; rintro e w1 ⟨rfl, rfl⟩)
    go_ret2
    exact ⟨rfl, (by (with_reducible repeat' (first | exact .refl _ _ | assumption | refine bmP ?_ ?_ | refine baP ?_ _ ?_ | refine .drew ?_ | refine .setCell ?_ ?_ _ | refine bdP ?_ _)) <;> go_size)⟩
  have na := natAbs_lt ha
  have nb := natAbs_lt hb
  have e : mulX a b = if 10000 ≤ a.natAbs * b.natAbs / 18446744073709551616 then (0, 2) else signX (upX (a.natAbs * b.natAbs / 10000) (decide (5000 ≤ a.natAbs * b.natAbs % 10000))) (lowX a != lowX b) := if_neg (fun h => h.elim h1 h2)
  have m1 : (a != minI) = true := by simp [h1]
  have m2 : (b != minI) = true := by simp [h2]
  obtain ⟨m, hm⟩ : ∃ m, a.natAbs = m := ⟨_, rfl⟩
  obtain ⟨n, hn⟩ : ∃ n, b.natAbs = n := ⟨_, rfl⟩
  rw [hm] at na e
  rw [hn] at nb e
  have hp := words_of (m * n)
  have hl : m * n % 18446744073709551616 < 18446744073709551616 := Nat.mod_lt _ (by decide)
  obtain ⟨hi, hhi⟩ : ∃ hi, m * n / 18446744073709551616 = hi := ⟨_, rfl⟩
  obtain ⟨lo, hlo⟩ : ∃ lo, m * n % 18446744073709551616 = lo := ⟨_, rfl⟩
  rw [hhi, hlo] at hp
  rw [hhi] at e
  rw [hlo] at hl
  rw [← hp] at e
  obtain ⟨lw, hlw⟩ : ∃ lw, (lowX a != lowX b) = lw := ⟨_, rfl⟩
  rw [hlw] at e
  have HM := Lib.hid hm
  have HN := Lib.hid hn
  have HHI := Lib.hid hhi
  have HLO := Lib.hid hlo
  have HA := Lib.hid ha
  have HB := Lib.hid hb
  have NA := Lib.hid (show m < 18446744073709551616 by omega)
  have NB := Lib.hid (show n < 18446744073709551616 by omega)
  have HL := Lib.hid hl
  clear hm hn hhi hlo ha hb na nb hl hp
  by_cases c1 : 10000 ≤ hi
  · rw [if_pos c1] at e
    rw [e]
    have c1i : (10000 : Int) ≤ hi := by omega
    clear c1 e h1 h2
    go_enter Tryz.func183, Tryz.ntmps183
    go_wp2_with (first
      | (go_at_call 102; refine (dec_May _ _).mono ?_; rintro e w1 ⟨rfl, rfl⟩)
      | (go_at_call_of 151 (Value.int .i64 a); refine (dec_size a HA.out _).mono ?_; rw [HM.out]; rintro e w1 ⟨rfl, rfl⟩)
      | (go_at_call_of 151 (Value.int .i64 b); refine (dec_size b HB.out _).mono ?_; rw [HN.out]; rintro e w1 ⟨rfl, rfl⟩)
      | (go_at_call 152; refine (Tryz.bits_Mul64 m n NA.out NB.out _).mono ?_; rw [HHI.out, HLO.out]; rintro e w1 ⟨rfl, rfl⟩))
    go_ret2
    exact ⟨rfl, (by (with_reducible repeat' (first | exact .refl _ _ | assumption | refine bmP ?_ ?_ | refine baP ?_ _ ?_ | refine .drew ?_ | refine .setCell ?_ ?_ _ | refine bdP ?_ _)) <;> go_size)⟩
  · rw [if_neg c1] at e
    have hq1 : (hi * 18446744073709551616 + lo) / 10000 < 18446744073709551616 := by have := HL.out; omega
    obtain ⟨q, hq⟩ : ∃ q, (hi * 18446744073709551616 + lo) / 10000 = q := ⟨_, rfl⟩
    obtain ⟨r, hr⟩ : ∃ r, (hi * 18446744073709551616 + lo) % 10000 = r := ⟨_, rfl⟩
    rw [hq, hr] at e
    rw [hq] at hq1
    rw [e]
    have HQ := Lib.hid hq
    have HR := Lib.hid hr
    have C1 := Lib.hid (show hi < 10000 by omega)
    have Q1 := Lib.hid hq1
    have c1i : ¬ (10000 : Int) ≤ hi := by omega
    clear c1 e hq hr hq1 h1 h2
    by_cases c2 : 5000 ≤ r
    · have c2i : (5000 : Int) ≤ r := by omega
      by_cases c3 : q ≤ 9223372036854775807
      · have c3i : (q : Int) ≤ 9223372036854775807 := by omega
        rw [show upX q (decide (5000 ≤ r)) = q + 1 by simp [upX, c2, c3]]
        obtain ⟨q2, hq2⟩ : ∃ q2, q + 1 = q2 := ⟨_, rfl⟩
        have w2 : IntKind.u64.wrap ((q : Int) + 1) = (q2 : Int) := by rw [IntKind.wrap_u64]; omega
        have Q2 := Lib.hid (show q2 < 18446744073709551616 by omega)
        rw [hq2]
        clear c2 c3 hq2
        go_enter Tryz.func183, Tryz.ntmps183
        go_wp2_with (first
          | (go_at_call 102; refine (dec_May _ _).mono ?_; rintro e w1 ⟨rfl, rfl⟩)
          | (go_at_call_of 151 (Value.int .i64 a); refine (dec_size a HA.out _).mono ?_; rw [HM.out]; rintro e w1 ⟨rfl, rfl⟩)
          | (go_at_call_of 151 (Value.int .i64 b); refine (dec_size b HB.out _).mono ?_; rw [HN.out]; rintro e w1 ⟨rfl, rfl⟩)
          | (go_at_call 152; refine (Tryz.bits_Mul64 m n NA.out NB.out _).mono ?_; rw [HHI.out, HLO.out]; rintro e w1 ⟨rfl, rfl⟩)
          | (go_at_call 186; refine (div_scale hi lo q r C1.out HL.out HQ.out HR.out _).mono ?_; rintro e w1 ⟨rfl, hb⟩; obtain ⟨l1, l2, rfl⟩ := more_of_below hb; clear hb)
          | (go_at_call 153; rw [show (!lowX a == lowX b) = lw from hlw]; refine (dec_signed q2 Q2.out lw _).mono ?_; rintro e w1 ⟨rfl, rfl⟩))
        go_ret2
        exact ⟨rfl, (by (with_reducible repeat' (first | exact .refl _ _ | assumption | refine bmP ?_ ?_ | refine baP ?_ _ ?_ | refine .drew ?_ | refine .setCell ?_ ?_ _ | refine bdP ?_ _)) <;> go_size)⟩
      · have c3i : ¬ (q : Int) ≤ 9223372036854775807 := by omega
        rw [show upX q (decide (5000 ≤ r)) = q by simp [upX, c2, c3]]
        clear c2 c3
        go_enter Tryz.func183, Tryz.ntmps183
        go_wp2_with (first
          | (go_at_call 102; refine (dec_May _ _).mono ?_; rintro e w1 ⟨rfl, rfl⟩)
          | (go_at_call_of 151 (Value.int .i64 a); refine (dec_size a HA.out _).mono ?_; rw [HM.out]; rintro e w1 ⟨rfl, rfl⟩)
          | (go_at_call_of 151 (Value.int .i64 b); refine (dec_size b HB.out _).mono ?_; rw [HN.out]; rintro e w1 ⟨rfl, rfl⟩)
          | (go_at_call 152; refine (Tryz.bits_Mul64 m n NA.out NB.out _).mono ?_; rw [HHI.out, HLO.out]; rintro e w1 ⟨rfl, rfl⟩)
          | (go_at_call 186; refine (div_scale hi lo q r C1.out HL.out HQ.out HR.out _).mono ?_; rintro e w1 ⟨rfl, hb⟩; obtain ⟨l1, l2, rfl⟩ := more_of_below hb; clear hb)
          | (go_at_call 153; rw [show (!lowX a == lowX b) = lw from hlw]; refine (dec_signed q Q1.out lw _).mono ?_; rintro e w1 ⟨rfl, rfl⟩))
        go_ret2
        exact ⟨rfl, (by (with_reducible repeat' (first | exact .refl _ _ | assumption | refine bmP ?_ ?_ | refine baP ?_ _ ?_ | refine .drew ?_ | refine .setCell ?_ ?_ _ | refine bdP ?_ _)) <;> go_size)⟩
    · have c2i : ¬ (5000 : Int) ≤ r := by omega
      rw [show upX q (decide (5000 ≤ r)) = q by simp [upX, c2]]
      clear c2
      go_enter Tryz.func183, Tryz.ntmps183
      go_wp2_with (first
        | (go_at_call 102; refine (dec_May _ _).mono ?_; rintro e w1 ⟨rfl, rfl⟩)
        | (go_at_call_of 151 (Value.int .i64 a); refine (dec_size a HA.out _).mono ?_; rw [HM.out]; rintro e w1 ⟨rfl, rfl⟩)
        | (go_at_call_of 151 (Value.int .i64 b); refine (dec_size b HB.out _).mono ?_; rw [HN.out]; rintro e w1 ⟨rfl, rfl⟩)
        | (go_at_call 152; refine (Tryz.bits_Mul64 m n NA.out NB.out _).mono ?_; rw [HHI.out, HLO.out]; rintro e w1 ⟨rfl, rfl⟩)
        | (go_at_call 186; refine (div_scale hi lo q r C1.out HL.out HQ.out HR.out _).mono ?_; rintro e w1 ⟨rfl, hb⟩; obtain ⟨l1, l2, rfl⟩ := more_of_below hb; clear hb)
        | (go_at_call 153; rw [show (!lowX a == lowX b) = lw from hlw]; refine (dec_signed q Q1.out lw _).mono ?_; rintro e w1 ⟨rfl, rfl⟩))
      go_ret2
      exact ⟨rfl, (by (with_reducible repeat' (first | exact .refl _ _ | assumption | refine bmP ?_ ?_ | refine baP ?_ _ ?_ | refine .drew ?_ | refine .setCell ?_ ?_ _ | refine bdP ?_ _)) <;> go_size)⟩
end Go.Proofs.YtegbhdeaicgpkaaGreatDoor
namespace Go.Proofs.YtegbhdeaicgpkaaGreatDoor
open Go Go.RowKit
theorem mul_scale (m hi lo : Nat) (hm : m < 18446744073709551616) (hhi : m * 10000 / 18446744073709551616 = hi) (hlo : m * 10000 % 18446744073709551616 = lo) (w : World) : Calls Tryz.prog 152 #[.int .u64 m, .int .u64 10000] w fun e w' => e = .returned (.tuple #[.int .u64 hi, .int .u64 lo]) ∧ w' = w := by
  obtain ⟨y, hy⟩ : ∃ y : Nat, y = 10000 := ⟨_, rfl⟩
  rw [← hy] at hhi hlo
  have h1 := Tryz.bits_Mul64 m y hm (by omega) w
  rw [hhi, hlo, show ((y : Nat) : Int) = 10000 by omega] at h1
  exact h1
set_option maxRecDepth 100000 in
set_option maxHeartbeats 1000000 in
theorem dec_Div (a b : Int) (ha : Is64 a) (hb : Is64 b) (w : World) : Calls Tryz.prog 135 #[.int .i64 a, .int .i64 b] w fun e w' => e = .returned (.tuple #[.int .i64 (divX a b).1, .int .i64 (divX a b).2]) ∧ Below w.heap.size w w' := by
  by_cases h1 : a = minI
  · rw [show divX a b = (0, 2) from if_pos (.inl h1)]
    clear ha hb
    go_enter Tryz.func135, Tryz.ntmps135
    go_wp2_with (go_at_call 102; refine (dec_May _ _).mono ?_; rintro e w1 ⟨rfl, rfl⟩)
    go_ret2
    exact ⟨rfl, (by (with_reducible repeat' (first | exact .refl _ _ | assumption | refine bmP ?_ ?_ | refine baP ?_ _ ?_ | refine .drew ?_ | refine .setCell ?_ ?_ _ | refine bdP ?_ _)) <;> go_size)⟩
  by_cases h2 : b = minI
  · rw [show divX a b = (0, 2) from if_pos (.inr h2)]
    have m1 : (a != minI) = true := by simp [h1]
    clear ha hb
    go_enter Tryz.func135, Tryz.ntmps135
    go_wp2_with (go_at_call 102; refine (dec_May _ _).mono ?_; rintro e w1 ⟨rfl, rfl⟩)
    go_ret2
    exact ⟨rfl, (by (with_reducible repeat' (first | exact .refl _ _ | assumption | refine bmP ?_ ?_ | refine baP ?_ _ ?_ | refine .drew ?_ | refine .setCell ?_ ?_ _ | refine bdP ?_ _)) <;> go_size)⟩
  have m1 : (a != minI) = true := by simp [h1]
  have m2 : (b != minI) = true := by simp [h2]
  by_cases h3 : b = 0
  · have e : divX a b = (0, 3) := by
      unfold divX
      rw [if_neg (fun h => h.elim h1 h2), if_pos h3]
    rw [e]
    have m3 : (b == 0) = true := by simp [h3]
    clear ha hb e h1 h2
    go_enter Tryz.func135, Tryz.ntmps135
    go_wp2_with (go_at_call 102; refine (dec_May _ _).mono ?_; rintro e w1 ⟨rfl, rfl⟩)
    go_ret2
    exact ⟨rfl, (by (with_reducible repeat' (first | exact .refl _ _ | assumption | refine bmP ?_ ?_ | refine baP ?_ _ ?_ | refine .drew ?_ | refine .setCell ?_ ?_ _ | refine bdP ?_ _)) <;> go_size)⟩
  have na := natAbs_lt ha
  have nb := natAbs_lt hb
  have nz : 0 < b.natAbs := by omega
  have e : divX a b = if b.natAbs ≤ a.natAbs * 10000 / 18446744073709551616 then (0, 2) else signX (upX (a.natAbs * 10000 / b.natAbs) (decide (b.natAbs - a.natAbs * 10000 % b.natAbs ≤ a.natAbs * 10000 % b.natAbs))) (lowX a != lowX b) := by
    unfold divX
    rw [if_neg (fun h => h.elim h1 h2), if_neg h3]
  have m3 : (b == 0) = false := by simp [h3]
  obtain ⟨m, hm⟩ : ∃ m, a.natAbs = m := ⟨_, rfl⟩
  obtain ⟨n, hn⟩ : ∃ n, b.natAbs = n := ⟨_, rfl⟩
  rw [hm] at na e
  rw [hn] at nb e nz
  have hp := words_of (m * 10000)
  have hl : m * 10000 % 18446744073709551616 < 18446744073709551616 := Nat.mod_lt _ (by decide)
  obtain ⟨hi, hhi⟩ : ∃ hi, m * 10000 / 18446744073709551616 = hi := ⟨_, rfl⟩
  obtain ⟨lo, hlo⟩ : ∃ lo, m * 10000 % 18446744073709551616 = lo := ⟨_, rfl⟩
  rw [hhi, hlo] at hp
  rw [hhi] at e
  rw [hlo] at hl
  rw [← hp] at e
  obtain ⟨lw, hlw⟩ : ∃ lw, (lowX a != lowX b) = lw := ⟨_, rfl⟩
  rw [hlw] at e
  have HM := Lib.hid hm
  have HN := Lib.hid hn
  have HHI := Lib.hid hhi
  have HLO := Lib.hid hlo
  have HA := Lib.hid ha
  have HB := Lib.hid hb
  have NA := Lib.hid (show m < 18446744073709551616 by omega)
  have NB := Lib.hid (show n < 18446744073709551616 by omega)
  have HL := Lib.hid hl
  have NZ := Lib.hid nz
  have hq1 : hi < n → (hi * 18446744073709551616 + lo) / n < 18446744073709551616 := fun h => by
    rw [Nat.div_lt_iff_lt_mul nz]
    have : (hi + 1) * 18446744073709551616 ≤ n * 18446744073709551616 := Nat.mul_le_mul_right _ h
    omega
  clear hm hn hhi hlo ha hb na nb hl hp nz
  by_cases c1 : n ≤ hi
  · rw [if_pos c1] at e
    rw [e]
    have c1i : (n : Int) ≤ hi := by omega
    clear c1 e h1 h2 h3 hq1
    go_enter Tryz.func135, Tryz.ntmps135
    go_wp2_with (first
      | (go_at_call 102; refine (dec_May _ _).mono ?_; rintro e w1 ⟨rfl, rfl⟩)
      | (go_at_call_of 151 (Value.int .i64 a); refine (dec_size a HA.out _).mono ?_; rw [HM.out]; rintro e w1 ⟨rfl, rfl⟩)
      | (go_at_call_of 151 (Value.int .i64 b); refine (dec_size b HB.out _).mono ?_; rw [HN.out]; rintro e w1 ⟨rfl, rfl⟩)
      | (go_at_call 152; refine (mul_scale m hi lo NA.out HHI.out HLO.out _).mono ?_; rintro e w1 ⟨rfl, rfl⟩))
    go_ret2
    exact ⟨rfl, (by (with_reducible repeat' (first | exact .refl _ _ | assumption | refine bmP ?_ ?_ | refine baP ?_ _ ?_ | refine .drew ?_ | refine .setCell ?_ ?_ _ | refine bdP ?_ _)) <;> go_size)⟩
  · rw [if_neg c1] at e
    have hq1 := hq1 (by omega)
    obtain ⟨q, hq⟩ : ∃ q, (hi * 18446744073709551616 + lo) / n = q := ⟨_, rfl⟩
    obtain ⟨r, hr⟩ : ∃ r, (hi * 18446744073709551616 + lo) % n = r := ⟨_, rfl⟩
    have hrn : r < n := by rw [← hr]; exact Nat.mod_lt _ NZ.out
    rw [hq, hr] at e
    rw [hq] at hq1
    rw [e]
    obtain ⟨d, hd⟩ : ∃ d, n - r = d := ⟨_, rfl⟩
    have wd : IntKind.u64.wrap ((n : Int) - (r : Int)) = (d : Int) := by have := NB.out; rw [IntKind.wrap_u64]; omega
    rw [hd]
    have HQ := Lib.hid hq
    have HR := Lib.hid hr
    have C1 := Lib.hid (show hi < n by omega)
    have Q1 := Lib.hid hq1
    have c1i : ¬ (n : Int) ≤ hi := by omega
    clear c1 e hq hr hq1 h1 h2 h3 hrn hd
    by_cases c2 : d ≤ r
    · have c2i : (d : Int) ≤ r := by omega
      by_cases c3 : q ≤ 9223372036854775807
      · have c3i : (q : Int) ≤ 9223372036854775807 := by omega
        rw [show upX q (decide (d ≤ r)) = q + 1 by simp [upX, c2, c3]]
        obtain ⟨q2, hq2⟩ : ∃ q2, q + 1 = q2 := ⟨_, rfl⟩
        have w2 : IntKind.u64.wrap ((q : Int) + 1) = (q2 : Int) := by rw [IntKind.wrap_u64]; omega
        have Q2 := Lib.hid (show q2 < 18446744073709551616 by omega)
        rw [hq2]
        clear c2 c3 hq2
        go_enter Tryz.func135, Tryz.ntmps135
        go_wp2_with (first
      | (go_at_call 102; refine (dec_May _ _).mono ?_; rintro e w1 ⟨rfl, rfl⟩)
      | (go_at_call_of 151 (Value.int .i64 a); refine (dec_size a HA.out _).mono ?_; rw [HM.out]; rintro e w1 ⟨rfl, rfl⟩)
      | (go_at_call_of 151 (Value.int .i64 b); refine (dec_size b HB.out _).mono ?_; rw [HN.out]; rintro e w1 ⟨rfl, rfl⟩)
      | (go_at_call 152; refine (mul_scale m hi lo NA.out HHI.out HLO.out _).mono ?_; rintro e w1 ⟨rfl, rfl⟩)
      | (go_at_call 186; refine (div_words hi lo n q r C1.out HL.out NB.out HQ.out HR.out _).mono ?_; rintro e w1 ⟨rfl, hb⟩; obtain ⟨l1, l2, rfl⟩ := more_of_below hb; clear hb)
      | (go_at_call 153; rw [show (!lowX a == lowX b) = lw from hlw]; refine (dec_signed q2 Q2.out lw _).mono ?_; rintro e w1 ⟨rfl, rfl⟩))
        go_ret2
        exact ⟨rfl, (by (with_reducible repeat' (first | exact .refl _ _ | assumption | refine bmP ?_ ?_ | refine baP ?_ _ ?_ | refine .drew ?_ | refine .setCell ?_ ?_ _ | refine bdP ?_ _)) <;> go_size)⟩
      · have c3i : ¬ (q : Int) ≤ 9223372036854775807 := by omega
        rw [show upX q (decide (d ≤ r)) = q by simp [upX, c2, c3]]
        clear c2 c3
        go_enter Tryz.func135, Tryz.ntmps135
        go_wp2_with (first
      | (go_at_call 102; refine (dec_May _ _).mono ?_; rintro e w1 ⟨rfl, rfl⟩)
      | (go_at_call_of 151 (Value.int .i64 a); refine (dec_size a HA.out _).mono ?_; rw [HM.out]; rintro e w1 ⟨rfl, rfl⟩)
      | (go_at_call_of 151 (Value.int .i64 b); refine (dec_size b HB.out _).mono ?_; rw [HN.out]; rintro e w1 ⟨rfl, rfl⟩)
      | (go_at_call 152; refine (mul_scale m hi lo NA.out HHI.out HLO.out _).mono ?_; rintro e w1 ⟨rfl, rfl⟩)
      | (go_at_call 186; refine (div_words hi lo n q r C1.out HL.out NB.out HQ.out HR.out _).mono ?_; rintro e w1 ⟨rfl, hb⟩; obtain ⟨l1, l2, rfl⟩ := more_of_below hb; clear hb)
      | (go_at_call 153; rw [show (!lowX a == lowX b) = lw from hlw]; refine (dec_signed q Q1.out lw _).mono ?_; rintro e w1 ⟨rfl, rfl⟩))
        go_ret2
        exact ⟨rfl, (by (with_reducible repeat' (first | exact .refl _ _ | assumption | refine bmP ?_ ?_ | refine baP ?_ _ ?_ | refine .drew ?_ | refine .setCell ?_ ?_ _ | refine bdP ?_ _)) <;> go_size)⟩
    · have c2i : ¬ (d : Int) ≤ r := by omega
      rw [show upX q (decide (d ≤ r)) = q by simp [upX, c2]]
      clear c2
      go_enter Tryz.func135, Tryz.ntmps135
      go_wp2_with (first
      | (go_at_call 102; refine (dec_May _ _).mono ?_; rintro e w1 ⟨rfl, rfl⟩)
      | (go_at_call_of 151 (Value.int .i64 a); refine (dec_size a HA.out _).mono ?_; rw [HM.out]; rintro e w1 ⟨rfl, rfl⟩)
      | (go_at_call_of 151 (Value.int .i64 b); refine (dec_size b HB.out _).mono ?_; rw [HN.out]; rintro e w1 ⟨rfl, rfl⟩)
      | (go_at_call 152; refine (mul_scale m hi lo NA.out HHI.out HLO.out _).mono ?_; rintro e w1 ⟨rfl, rfl⟩)
      | (go_at_call 186; refine (div_words hi lo n q r C1.out HL.out NB.out HQ.out HR.out _).mono ?_; rintro e w1 ⟨rfl, hb⟩; obtain ⟨l1, l2, rfl⟩ := more_of_below hb; clear hb)
      | (go_at_call 153; rw [show (!lowX a == lowX b) = lw from hlw]; refine (dec_signed q Q1.out lw _).mono ?_; rintro e w1 ⟨rfl, rfl⟩))
      go_ret2
      exact ⟨rfl, (by (with_reducible repeat' (first | exact .refl _ _ | assumption | refine bmP ?_ ?_ | refine baP ?_ _ ?_ | refine .drew ?_ | refine .setCell ?_ ?_ _ | refine bdP ?_ _)) <;> go_size)⟩
end Go.Proofs.YtegbhdeaicgpkaaGreatDoor
