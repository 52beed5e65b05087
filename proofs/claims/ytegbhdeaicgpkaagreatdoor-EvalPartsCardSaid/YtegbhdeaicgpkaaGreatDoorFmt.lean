/-
  strconv.FormatUint at base 10: a number's decimal numeral.
-/
import Derived.Test.YtegbhdeaicgpkaaGreatDoorOpsA
import Derived.Test.YtegbhdeaicgpkaaGreatDoorShelfNum
import Derived.Lib.ItoaMem
import Derived.Lib.AppendIntMem
import Derived.Lib.Walk
import Derived.BigCall
import Derived.BigGuard
namespace Go.Proofs.YtegbhdeaicgpkaaGreatDoor
open Go Go.RowKit Go.Sort Go.Lib

/-- The library's table of the powers of ten stands. -/
def Pow10 (w : World) : Prop := Lib.TabIs Tryz.prog w "internal/strconv.uint64pow10" .u64 Lib.pow10Tab
theorem global_pow10 : Tryz.prog.globalNamed "internal/strconv.uint64pow10" = some 3 := by kernel_rfl
theorem Pow10.lt {w : World} (h : Pow10 w) : 3 < w.heap.size := by
  unfold Pow10 Lib.TabIs World.var? at h
  rw [global_pow10] at h
  rcases Nat.lt_or_ge 3 w.heap.size with h' | h'
  · exact h'
  · simp only [Option.bind_some] at h
    rw [Array.getElem?_eq_none h'] at h
    simp at h
theorem Pow10.same {w w' : World} (h : Pow10 w) (hs : w'.heap[3]? = w.heap[3]?) : Pow10 w' := by
  unfold Pow10 Lib.TabIs World.var? at *
  rw [global_pow10] at *
  simp only [Option.bind_some] at *
  rw [hs]
  exact h
theorem Pow10.below {w w' : World} (h : Pow10 w) {B : Nat} (hb : Below B w w') (hB : w.heap.size ≤ B) : Pow10 w' := h.same (hb.block _ (Nat.lt_of_lt_of_le h.lt hB))

set_option maxHeartbeats 6400000 in
set_option maxRecDepth 100000 in
theorem FormatUint_big (u : Nat) (hu : 100 ≤ u) (hu64 : u < 18446744073709551616) (w : World) (htab : Pow10 w) : Calls Tryz.prog 230 #[.int .u64 u, .int .i64 10] w fun e w' => e = .returned (.string ⟨(Lib.decDigits u).toArray⟩) ∧ Below w.heap.size w w' := by
  have hu1 : 1 ≤ u := by omega
  have hnd20 : Lib.nDigits u ≤ 20 := by have := Lib.numDigits_eq u hu1 hu64; split at this <;> omega
  have hal : Tryz.prog.arrayLen 288 = 24 := by kernel_rfl
  have hsl : ∀ W, (Instr.sliceAt 288 (.pointer (some ⟨w.heap.size, 0, none⟩)) none (some (.int .i64 (Lib.nDigits u : Int))) none).run Tryz.prog W = .ok (.slice (some ⟨w.heap.size, 0, none⟩) (Lib.nDigits u) 24) W := fun W => by
    rw [run_sliceAt_array_h W 288 ⟨w.heap.size, 0, none⟩ (by kernel_rfl) .i64 (Lib.nDigits u : Int) (by omega) (by rw [hal]; omega)]
    go_simp
  have hH0 := Lib.holds_zero0 w 288 (Lib.nDigits u) (by omega)
  have hfmt := Tryz.internal_strconv_formatBase10 w.heap.size 0 24 u (Array.replicate (Lib.nDigits u) 0) (w.alloc (.cells Lib.zeros24 288)) hH0 (by rw [Array.size_replicate]; exact Lib.lt_pow_nDigits u) hu64 (by rw [Array.size_replicate]; omega)
  rw [Array.size_replicate] at hfmt
  have HH0 := Lib.hid hH0
  have iu : ¬ ((u : Int) < 100) := by omega
  clear hH0 hal
  go_enter Tryz.func230, Tryz.ntmps230
  go_wp2_with (first
    | (go_at_call 269; refine (Tryz.internal_strconv_numDigits u hu1 hu64 _ (Lib.tabIs_alloc htab _)).mono ?_; rintro e w' ⟨rfl, rfl⟩))
  go_at_call 270
  refine hfmt.mono ?_
  rintro e w' ⟨rfl, k, v', dk, rfl, hF⟩
  have hcv : (convert 194 9 (.slice (some ⟨w.heap.size, 0, none⟩) (Lib.nDigits u) 24)).run Tryz.prog ((putRow (fun (b : UInt8) => Value.int .u8 (b.toNat : Int)) (w.alloc (.cells Lib.zeros24 288)) w.heap.size 0 dk).drewN k) = .ok (.string ⟨(Lib.decDigits u).toArray⟩) ((putRow (fun (b : UInt8) => Value.int .u8 (b.toNat : Int)) (w.alloc (.cells Lib.zeros24 288)) w.heap.size 0 dk).drewN k) := by
    have h := run_convert_bytes_back (P := Tryz.prog) ((putRow (fun (b : UInt8) => Value.int .u8 (b.toNat : Int)) (w.alloc (.cells Lib.zeros24 288)) w.heap.size 0 dk).drewN k) 194 9 5 ⟨w.heap.size, 0, none⟩ 24 (Lib.decDigits u) Tryz.underlying194 Tryz.underlying5 Tryz.underlying9 (fun j hj => by
      rw [Lib.row_is_numeral hF j hj, Lib.add_plain, World.cell?_drewN]
      exact cell?_putRow (fun (b : UInt8) => Value.int .u8 (b.toNat : Int)) _ w.heap.size 0 _ dk HH0.out (by rw [hF.size, Array.size_replicate]) j (by rw [hF.size]; rw [Lib.decDigits_length] at hj; exact hj))
    rw [Lib.decDigits_length] at h
    exact h
  go_wp2
  go_ret
  obtain ⟨os, eo⟩ := Lib.fin_at w (.cells Lib.zeros24 288) dk k 0
  refine ⟨rfl, ?_⟩
  rw [eo]
  exact Lib.below_grow w.heap.size w (Nat.le_refl _) k os
theorem FormatUint (u : Nat) (hu64 : u < 18446744073709551616) (w : World) (htab : Pow10 w) : Calls Tryz.prog 230 #[.int .u64 u, .int .i64 10] w fun e w' => e = .returned (.string ⟨(Lib.decDigits u).toArray⟩) ∧ Below w.heap.size w w' := by
  by_cases hu : 100 ≤ u
  · exact FormatUint_big u hu hu64 w htab
  · have iu : (u : Int) < 100 := by omega
    go_enter Tryz.func230, Tryz.ntmps230
    go_wp2_with (go_at_call 268; refine (Tryz.internal_strconv_small u (by omega) _).mono ?_; rintro e w' ⟨rfl, rfl⟩)
    go_ret
    exact ⟨rfl, (by repeat (first | with_reducible exact Below.refl _ _ | with_reducible assumption | with_reducible refine below_more' ?_ (by go_size) | with_reducible refine bel_alloc ?_ _ (by go_size) | with_reducible refine Below.drew ?_ | with_reducible refine Below.setCell ?_ (by go_size) _ | with_reducible refine below_drewN ?_ _))⟩
theorem strconv_FormatUint (u : Nat) (hu64 : u < 18446744073709551616) (w : World) (htab : Pow10 w) : Calls Tryz.prog 177 #[.int .u64 u, .int .i64 10] w fun e w' => e = .returned (.string ⟨(Lib.decDigits u).toArray⟩) ∧ Below w.heap.size w w' := by
  go_enter Tryz.func177, Tryz.ntmps177
  go_wp2_with (go_at_call 230; refine (FormatUint u hu64 _ (htab.below (by repeat (first | with_reducible exact Below.refl _ _ | with_reducible assumption | with_reducible refine below_more' ?_ (by go_size) | with_reducible refine bel_alloc ?_ _ (by go_size) | with_reducible refine Below.drew ?_ | with_reducible refine Below.setCell ?_ (by go_size) _ | with_reducible refine below_drewN ?_ _)) (Nat.le_refl _))).mono ?_; rintro e w' ⟨rfl, hb⟩; obtain ⟨l1, l2, rfl⟩ := more_of_below hb; clear hb)
  go_ret
  exact ⟨rfl, (by repeat (first | with_reducible exact Below.refl _ _ | with_reducible assumption | with_reducible refine below_more' ?_ (by go_size) | with_reducible refine bel_alloc ?_ _ (by go_size) | with_reducible refine Below.drew ?_ | with_reducible refine Below.setCell ?_ (by go_size) _ | with_reducible refine below_drewN ?_ _))⟩
end Go.Proofs.YtegbhdeaicgpkaaGreatDoor
