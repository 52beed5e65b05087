/-
  math/bits.Div64, dec.Mul and dec.Div: what each answers, for every number.
-/
import Derived.Test.YtegbhdeaicgpkaaGreatDoorOpsA
import Derived.Test.YtegbhdeaicgpkaaGreatDoorDivF
import Derived.Test.YtegbhdeaicgpkaaGreatDoorShelfNum
import Derived.Deep.DeepCutAuto
import Derived.Deep.CutBlock
namespace Go.Proofs.YtegbhdeaicgpkaaGreatDoor
open Go Go.RowKit
theorem div64_zero (lo y : Nat) (h : 0 < y) (hl : lo < 18446744073709551616) (hy : y < 18446744073709551616) (w : World) : Calls Tryz.prog 186 #[.int .u64 0, .int .u64 lo, .int .u64 y] w fun e w' => e = .returned (.tuple #[.int .u64 ((lo / y : Nat) : Int), .int .u64 ((lo % y : Nat) : Int)]) ∧ Below w.heap.size w w' := by
  have h0 : ((y : Int) == 0) = false := by simp; omega
  have h0' : ¬ (y : Int) = 0 := by omega
  have h1 : ¬ (y : Int) ≤ 0 := by omega
  have hb : (lo : Int) / (y : Int) ≤ 18446744073709551615 := by rw [← Int.natCast_ediv]; have := Nat.div_le_self lo y; omega
  have hb0 : 0 ≤ (lo : Int) / (y : Int) := by rw [← Int.natCast_ediv]; exact Int.natCast_nonneg _
  go_enter Tryz.func186, Tryz.ntmps186
  go_wp2
  go_quiet (fail)
  all_goals go_wp2
  all_goals go_ret2
  all_goals refine ⟨?_, (by repeat (first | with_reducible exact Below.refl _ _ | with_reducible assumption | with_reducible refine below_more' ?_ (by go_size) | with_reducible refine bel_alloc ?_ _ (by go_size) | with_reducible refine Below.drew ?_ | with_reducible refine Below.setCell ?_ (by go_size) _ | with_reducible refine below_drewN ?_ _))⟩
  all_goals (rw [Int.natCast_ediv, Int.natCast_emod]; rfl)
set_option maxHeartbeats 1000000 in
theorem bits_Div64 (hi lo y : Nat) (h0 : 0 < hi) (h : hi < y) (hl : lo < 18446744073709551616) (hy : y < 18446744073709551616) (w : World) : Calls Tryz.prog 186 #[.int .u64 hi, .int .u64 lo, .int .u64 y] w fun e w' => e = .returned (.tuple #[.int .u64 (((hi * 18446744073709551616 + lo) / y : Nat) : Int), .int .u64 (((hi * 18446744073709551616 + lo) % y : Nat) : Int)]) ∧ Below w.heap.size w w' := by
  have q0 : ((y : Int) == 0) = false := by simp; omega
  have q1 : ¬ (y : Int) ≤ hi := by omega
  have q2 : ((hi : Int) == 0) = false := by simp; omega
  obtain ⟨s, t, v, H, D, u, z, d1, d0, a, b, F⟩ := Div64.facts hi lo y h hl hy
  rw [F.quo, F.rem]
  have k1 := F.k1
  have k2 := F.k2
  have k3 := F.k3
  have k4 := F.k4
  have k5 := F.k5
  have k6 := F.k6
  have k7 := F.k7
  have k8 := F.k8
  have k9 := F.k9
  have k10 := F.k10
  have k11 := F.k11
  have k12 := F.k12
  have k13 := F.k13
  have v0 : 0 < v := by have := F.v0; omega
  have a0 : 0 < a := by have := F.ha; have := F.v0; omega
  have a1 : ((a : Int) == 0) = false := by simp; omega
  have a2 : ¬ (a : Int) = 0 := by omega
  obtain ⟨q, r, g1, g2, g3, hI⟩ := Div64.start_words F.v0 F.v1 F.uv F.ha F.h1
  obtain ⟨Q, hQ⟩ : ∃ Q, Q = (u * 4294967296 + d1) / v := ⟨_, rfl⟩
  obtain ⟨R, hR⟩ : ∃ R, R = (u * 4294967296 + d1) % v := ⟨_, rfl⟩
  obtain ⟨x1, x2, x3, g4, g5, g6, g7⟩ := Div64.left_words v0 F.v1 hQ
  rw [← hR] at g7
  have hRv : R < v := by rw [hR]; exact Nat.mod_lt _ v0
  obtain ⟨q', r', g8, g9, g10, hJ⟩ := Div64.start_words F.v0 F.v1 hRv F.ha F.h0
  obtain ⟨Q', hQ'⟩ : ∃ Q', Q' = (R * 4294967296 + d0) / v := ⟨_, rfl⟩
  obtain ⟨y1, y2, y3, g11, g12, g13, g14⟩ := Div64.left_words v0 F.v1 hQ'
  have b1 : Q < 4294967296 := by rw [hQ]; exact Div64.digit_lt F.uv F.h1
  have b2 : Q' < 4294967296 := by rw [hQ']; exact Div64.digit_lt hRv F.h0
  obtain ⟨z1, g15, g16⟩ := Div64.last_words b1 b2
  rw [← hQ, ← hR, ← hQ']
  obtain ⟨T, hT⟩ : ∃ T, T = (R * 4294967296 + d0) % v := ⟨_, rfl⟩
  rw [← hT] at g14 ⊢
  have HF := Lib.hid F
  have HRv := Lib.hid hRv
  have HI := Lib.hid hI
  have HJ := Lib.hid hJ
  have HQ := Lib.hid hQ
  have HQ' := Lib.hid hQ'
  clear F hI hJ hQ hQ' hR hT hRv b1 b2
  go_enter Tryz.func186, Tryz.ntmps186
  go_upto_block 0 with (go_at_call 235; refine (Tryz.bits_LeadingZeros64 y _ (by omega) (by omega)).mono ?_; rintro e w1 ⟨rfl, rfl⟩)
  go_cut [15] (fun s15 wx => s15 = .int .u64 Q ∧ wx = w1)
  case first =>
    go_wp2_with fail
    go_loopw [15, 16] (fun t wt wr => ∃ q r : Nat, t = .int .u64 q ∧ wt = .int .u64 r ∧ Div64.Inv v u d1 q r ∧ wr = w1) (fun t _ _ => (intOf t).toNat)
    case atStart => exact ⟨_, _, rfl, rfl, HI.out, rfl⟩
    case round =>
      obtain ⟨q, r, rfl, rfl, hK, rfl⟩ := hrel
      obtain ⟨m, x, e, f1, f2, f3, f4, f5⟩ := Div64.test_words hK HF.out.hb HF.out.h1
      by_cases c1 : 4294967296 ≤ q ∨ e < m
      · have hg := hK.great HF.out.uv HF.out.h1 (by rw [← f4, ← f5]; exact c1)
        have hq1 : 1 ≤ q := Nat.le_trans (Nat.le_add_left 1 _) hg
        obtain ⟨p, o, f6, f7, f8, f9⟩ := Div64.less_words hK HF.out.ha HF.out.v1 hq1
        have hlt : (intOf (.int .u64 p)).toNat < (intOf (.int .u64 q)).toNat := by show ((p : Nat) : Int).toNat < ((q : Nat) : Int).toNat; rw [Int.toNat_natCast, Int.toNat_natCast, f8]; exact Nat.sub_lt hq1 Nat.one_pos
        by_cases c2 : 4294967296 ≤ o
        · have hp : p = Q := by rw [f8, HQ.out]; exact hK.brk v0 hg (by rw [← f9]; exact c2)
          have c2i : (4294967296 : Int) ≤ o := by omega
          by_cases c3 : 4294967296 ≤ q
          · have c3i : (4294967296 : Int) ≤ q := by omega
            clear hK hg hlt c1 f4 f5 f8 f9 hq1
            go_wp2
            go_meet
            exact ⟨by first | rfl | rw [hp], rfl⟩
          · have c3i : ¬ (4294967296 : Int) ≤ q := by omega
            have c4i : (e : Int) < m := by omega
            clear hK hg hlt c1 f4 f5 f8 f9 hq1
            go_wp2
            go_meet
            exact ⟨by first | rfl | rw [hp], rfl⟩
        · have hN := Lib.hid (show Div64.Inv v u d1 p o from by rw [f8, f9]; exact hK.round hg (by rw [← f9]; omega))
          have c2i : ¬ (4294967296 : Int) ≤ o := by omega
          by_cases c3 : 4294967296 ≤ q
          · have c3i : (4294967296 : Int) ≤ q := by omega
            clear hK hg c1 f4 f5 f8 f9 hq1
            go_wp2
            exact ⟨⟨p, o, rfl, rfl, hN.out, by first | rfl | trivial⟩, hlt⟩
          · have c3i : ¬ (4294967296 : Int) ≤ q := by omega
            have c4i : (e : Int) < m := by omega
            clear hK hg c1 f4 f5 f8 f9 hq1
            go_wp2
            exact ⟨⟨p, o, rfl, rfl, hN.out, by first | rfl | trivial⟩, hlt⟩
      · have hp : q = Q := by rw [HQ.out]; exact hK.done v0 (by rw [← f4, ← f5]; omega)
        have c3i : ¬ (4294967296 : Int) ≤ q := by omega
        have c4i : ¬ (e : Int) < m := by omega
        clear hK c1 f4 f5
        subst hp
        go_wp2
        go_meet
        exact ⟨rfl, rfl⟩
  case rest =>
    obtain ⟨rfl, hwx⟩ := hcut
    obtain rfl := hwx
    clear HI
    go_upto_block 2 with fail
    go_cut [18] (fun s18 wx => s18 = .int .u64 Q' ∧ wx = wc)
    case first =>
      go_wp2_with fail
      go_loopw [18, 16] (fun t wt wr => ∃ q r : Nat, t = .int .u64 q ∧ wt = .int .u64 r ∧ Div64.Inv v R d0 q r ∧ wr = wc) (fun t _ _ => (intOf t).toNat)
      case atStart => exact ⟨_, _, rfl, rfl, HJ.out, rfl⟩
      case round =>
        obtain ⟨q, r, rfl, rfl, hK, rfl⟩ := hrel
        obtain ⟨m, x, e, f1, f2, f3, f4, f5⟩ := Div64.test_words hK HF.out.hb HF.out.h0
        by_cases c1 : 4294967296 ≤ q ∨ e < m
        · have hg := hK.great HRv.out HF.out.h0 (by rw [← f4, ← f5]; exact c1)
          have hq1 : 1 ≤ q := Nat.le_trans (Nat.le_add_left 1 _) hg
          obtain ⟨p, o, f6, f7, f8, f9⟩ := Div64.less_words hK HF.out.ha HF.out.v1 hq1
          have hlt : (intOf (.int .u64 p)).toNat < (intOf (.int .u64 q)).toNat := by show ((p : Nat) : Int).toNat < ((q : Nat) : Int).toNat; rw [Int.toNat_natCast, Int.toNat_natCast, f8]; exact Nat.sub_lt hq1 Nat.one_pos
          by_cases c2 : 4294967296 ≤ o
          · have hp : p = Q' := by rw [f8, HQ'.out]; exact hK.brk v0 hg (by rw [← f9]; exact c2)
            have c2i : (4294967296 : Int) ≤ o := by omega
            by_cases c3 : 4294967296 ≤ q
            · have c3i : (4294967296 : Int) ≤ q := by omega
              clear hK hg hlt c1 f4 f5 f8 f9 hq1
              go_wp2
              go_meet
              exact ⟨by first | rfl | rw [hp], rfl⟩
            · have c3i : ¬ (4294967296 : Int) ≤ q := by omega
              have c4i : (e : Int) < m := by omega
              clear hK hg hlt c1 f4 f5 f8 f9 hq1
              go_wp2
              go_meet
              exact ⟨by first | rfl | rw [hp], rfl⟩
          · have hN := Lib.hid (show Div64.Inv v R d0 p o from by rw [f8, f9]; exact hK.round hg (by rw [← f9]; omega))
            have c2i : ¬ (4294967296 : Int) ≤ o := by omega
            by_cases c3 : 4294967296 ≤ q
            · have c3i : (4294967296 : Int) ≤ q := by omega
              clear hK hg c1 f4 f5 f8 f9 hq1
              go_wp2
              exact ⟨⟨p, o, rfl, rfl, hN.out, by first | rfl | trivial⟩, hlt⟩
            · have c3i : ¬ (4294967296 : Int) ≤ q := by omega
              have c4i : (e : Int) < m := by omega
              clear hK hg c1 f4 f5 f8 f9 hq1
              go_wp2
              exact ⟨⟨p, o, rfl, rfl, hN.out, by first | rfl | trivial⟩, hlt⟩
        · have hp : q = Q' := by rw [HQ'.out]; exact hK.done v0 (by rw [← f4, ← f5]; omega)
          have c3i : ¬ (4294967296 : Int) ≤ q := by omega
          have c4i : ¬ (e : Int) < m := by omega
          clear hK c1 f4 f5
          subst hp
          go_wp2
          go_meet
          exact ⟨rfl, rfl⟩
    case rest =>
      obtain ⟨rfl, rfl⟩ := hcut
      clear HJ HQ HQ' HRv HF
      go_wp2
      go_ret2
      have c1 : ((Q * 4294967296 + Q' : Nat) : Int) = (Q : Int) * 4294967296 + (Q' : Int) := by omega
      have c2 : ((T / 2 ^ s : Nat) : Int) = (T : Int) / 2 ^ s := by simp
      refine ⟨?_, (by repeat (first | with_reducible exact Below.refl _ _ | with_reducible assumption | with_reducible refine below_more' ?_ (by go_size) | with_reducible refine bel_alloc ?_ _ (by go_size) | with_reducible refine Below.drew ?_ | with_reducible refine Below.setCell ?_ (by go_size) _ | with_reducible refine below_drewN ?_ _))⟩
      rw [c1, c2]
      rfl
/-- Both words, one divisor: the quotient and what is left. -/
theorem Div64 (hi lo y : Nat) (h : hi < y) (hl : lo < 18446744073709551616) (hy : y < 18446744073709551616) (w : World) : Calls Tryz.prog 186 #[.int .u64 hi, .int .u64 lo, .int .u64 y] w fun e w' => e = .returned (.tuple #[.int .u64 (((hi * 18446744073709551616 + lo) / y : Nat) : Int), .int .u64 (((hi * 18446744073709551616 + lo) % y : Nat) : Int)]) ∧ Below w.heap.size w w' := by
  by_cases h0 : hi = 0
  · subst h0
    have h1 := div64_zero lo y h hl hy w
    rw [Nat.zero_mul, Nat.zero_add]
    exact h1
  · exact bits_Div64 hi lo y (by omega) h hl hy w
end Go.Proofs.YtegbhdeaicgpkaaGreatDoor
