/-
  Parts of a proof: Fmt, Txt.
-/
import Derived.Test.YtegbhdeaicgpkaaGreatDoorJ15
import Derived.Test.YtegbhdeaicgpkaaGreatDoorJ20
import Derived.Lib.ItoaMem
import Derived.Lib.AppendIntMem
import Derived.Lib.Walk
import Derived.BigCall
import Derived.BigGuard
set_option linter.all false
namespace Go.Proofs.YtegbhdeaicgpkaaGreatDoor
open Go Go.RowKit Go.Sort Go.Lib
def Pow10 (w : World) : Prop := Lib.TabIs Tryz.prog w "internal/strconv.uint64pow10" .u64 Lib.pow10Tab
theorem global_pow10 : Tryz.prog.globalNamed "internal/strconv.uint64pow10" = some 3 := by kernel_rfl
theorem Pow10.lt {w : World} (h : Pow10 w) : 3 < w.heap.size := by
  unfold Pow10 Lib.TabIs World.var? at h
  rw [global_pow10] at h
  rcases Nat.lt_or_ge 3 w.heap.size with h' | h'
  · exact h'
  · simp only [Option.bind_some] at h
    rw [Array.getElem?_eq_none h'] at h
    simp at h
theorem Pow10.same {w w' : World} (h : Pow10 w) (hs : w'.heap[3]? = w.heap[3]?) : Pow10 w' := by
  unfold Pow10 Lib.TabIs World.var? at *
  rw [global_pow10] at *
  simp only [Option.bind_some] at *
  rw [hs]
  exact h
theorem Pow10.below {w w' : World} (h : Pow10 w) {B : Nat} (hb : Below B w w') (hB : w.heap.size ≤ B) : Pow10 w' := h.same (hb.block _ (Nat.lt_of_lt_of_le h.lt hB))
set_option maxHeartbeats 6400000 in
set_option maxRecDepth 100000 in
theorem FormatUint_big (u : Nat) (hu : 100 ≤ u) (hu64 : u < 18446744073709551616) (w : World) (htab : Pow10 w) : Calls Tryz.prog 230 #[.int .u64 u, .int .i64 10] w fun e w' => e = .returned (.string ⟨(Lib.decDigits u).toArray⟩) ∧ Below w.heap.size w w' := by
  have hu1 : 1 ≤ u := by omega
  have hnd20 : Lib.nDigits u ≤ 20 := by have := Lib.numDigits_eq u hu1 hu64; split at this <;> omega
  have hal : Tryz.prog.arrayLen 288 = 24 := by kernel_rfl
  have hsl : ∀ W, (Instr.sliceAt 288 (.pointer (some ⟨w.heap.size, 0, none⟩)) none (some (.int .i64 (Lib.nDigits u : Int))) none).run Tryz.prog W = .ok (.slice (some ⟨w.heap.size, 0, none⟩) (Lib.nDigits u) 24) W := fun W => by
    rw [run_sliceAt_array_h W 288 ⟨w.heap.size, 0, none⟩ (by kernel_rfl) .i64 (Lib.nDigits u : Int) (by omega) (by rw [hal]; omega)]
    go_simp
  have hH0 := Lib.holds_zero0 w 288 (Lib.nDigits u) (by omega)
  have hfmt := Tryz.internal_strconv_formatBase10 w.heap.size 0 24 u (Array.replicate (Lib.nDigits u) 0) (w.alloc (.cells Lib.zeros24 288)) hH0 (by rw [Array.size_replicate]; exact Lib.lt_pow_nDigits u) hu64 (by rw [Array.size_replicate]; omega)
  rw [Array.size_replicate] at hfmt
  have HH0 := Lib.hid hH0
  have iu : ¬ ((u : Int) < 100) := by omega
  clear hH0 hal
  go_enter Tryz.func230, Tryz.ntmps230
  go_wp2_with (first
    | (go_at_call 269; refine (Tryz.internal_strconv_numDigits u hu1 hu64 _ (Lib.tabIs_alloc htab _)).mono ?_; rintro e w' ⟨rfl, rfl⟩))
  go_at_call 270
  refine hfmt.mono ?_
  rintro e w' ⟨rfl, k, v', dk, rfl, hF⟩
  have hcv : (convert 194 9 (.slice (some ⟨w.heap.size, 0, none⟩) (Lib.nDigits u) 24)).run Tryz.prog ((putRow (fun (b : UInt8) => Value.int .u8 (b.toNat : Int)) (w.alloc (.cells Lib.zeros24 288)) w.heap.size 0 dk).drewN k) = .ok (.string ⟨(Lib.decDigits u).toArray⟩) ((putRow (fun (b : UInt8) => Value.int .u8 (b.toNat : Int)) (w.alloc (.cells Lib.zeros24 288)) w.heap.size 0 dk).drewN k) := by
    have h := run_convert_bytes_back (P := Tryz.prog) ((putRow (fun (b : UInt8) => Value.int .u8 (b.toNat : Int)) (w.alloc (.cells Lib.zeros24 288)) w.heap.size 0 dk).drewN k) 194 9 5 ⟨w.heap.size, 0, none⟩ 24 (Lib.decDigits u) Tryz.underlying194 Tryz.underlying5 Tryz.underlying9 (fun j hj => by
      rw [Lib.row_is_numeral hF j hj, Lib.add_plain, World.cell?_drewN]
      exact cell?_putRow (fun (b : UInt8) => Value.int .u8 (b.toNat : Int)) _ w.heap.size 0 _ dk HH0.out (by rw [hF.size, Array.size_replicate]) j (by rw [hF.size]; rw [Lib.decDigits_length] at hj; exact hj))
    rw [Lib.decDigits_length] at h
    exact h
  go_wp2
  go_ret
  obtain ⟨os, eo⟩ := Lib.fin_at w (.cells Lib.zeros24 288) dk k 0
  refine ⟨rfl, ?_⟩
  rw [eo]
  exact Lib.below_grow w.heap.size w (Nat.le_refl _) k os
theorem FormatUint (u : Nat) (hu64 : u < 18446744073709551616) (w : World) (htab : Pow10 w) : Calls Tryz.prog 230 #[.int .u64 u, .int .i64 10] w fun e w' => e = .returned (.string ⟨(Lib.decDigits u).toArray⟩) ∧ Below w.heap.size w w' := by
  by_cases hu : 100 ≤ u
  · exact FormatUint_big u hu hu64 w htab
  · have iu : (u : Int) < 100 := by omega
    go_enter Tryz.func230, Tryz.ntmps230
    go_wp2_with (go_at_call 268; refine (Tryz.internal_strconv_small u (by omega) _).mono ?_; rintro e w' ⟨rfl, rfl⟩)
    go_ret
    exact ⟨rfl, (by (with_reducible repeat' (first | exact .refl _ _ | assumption | refine bmP ?_ ?_ | refine baP ?_ _ ?_ | refine .drew ?_ | refine .setCell ?_ ?_ _ | refine bdP ?_ _)) <;> go_size)⟩
theorem strconv_FormatUint (u : Nat) (hu64 : u < 18446744073709551616) (w : World) (htab : Pow10 w) : Calls Tryz.prog 177 #[.int .u64 u, .int .i64 10] w fun e w' => e = .returned (.string ⟨(Lib.decDigits u).toArray⟩) ∧ Below w.heap.size w w' := by
  go_enter Tryz.func177, Tryz.ntmps177
  go_wp2_with (go_at_call 230; refine (FormatUint u hu64 _ (htab.below (by (with_reducible repeat' (first | exact .refl _ _ | assumption | refine bmP ?_ ?_ | refine baP ?_ _ ?_ | refine .drew ?_ | refine .setCell ?_ ?_ _ | refine bdP ?_ _)) <;> go_size) (Nat.le_refl _))).mono ?_; rintro e w' ⟨rfl, hb⟩; obtain ⟨l1, l2, rfl⟩ := more_of_below hb; clear hb)
  go_ret
  exact ⟨rfl, (by (with_reducible repeat' (first | exact .refl _ _ | assumption | refine bmP ?_ ?_ | refine baP ?_ _ ?_ | refine .drew ?_ | refine .setCell ?_ ?_ _ | refine bdP ?_ _)) <;> go_size)⟩
end Go.Proofs.YtegbhdeaicgpkaaGreatDoor
namespace Go.Proofs.YtegbhdeaicgpkaaGreatDoor
open Go Go.RowKit
def numS (n : Nat) : ByteArray := ⟨(Lib.decDigits n).toArray⟩
def fracS (r : Nat) : ByteArray := ⟨(Lib.trimRightB (((numS (10000 + r)).extract 1 (numS (10000 + r)).size).data.toList) 48).toArray⟩
def headS (x : Int) : ByteArray := if x < 0 then (⟨#[45]⟩ : ByteArray) ++ numS (x.natAbs / 10000) else numS (x.natAbs / 10000)
def printS (x : Int) : ByteArray := if x = minI then ⟨#[]⟩ else if x.natAbs % 10000 = 0 then headS x else headS x ++ ((⟨#[46]⟩ : ByteArray) ++ fracS (x.natAbs % 10000))
def asTxtG (v : V) : ByteArray × Int := if mayG v = false then (⟨#[]⟩, 8) else if v.tag = 4 then (⟨#[]⟩, v.code) else if v.tag = 1 then (printS v.num, 0) else if v.tag = 3 then (if v.is then ⟨#[84, 82, 85, 69]⟩ else ⟨#[70, 65, 76, 83, 69]⟩, 0) else (v.str, 0)
def catG (text : Int) (a b : V) : V := if (asTxtG a).2 ≠ 0 then errG (asTxtG a).2 else if (asTxtG b).2 ≠ 0 then errG (asTxtG b).2 else if text < (asTxtG a).1.size + (asTxtG b).1.size then errG 7 else txtG ((asTxtG a).1 ++ (asTxtG b).1)
def twoG (text : Int) (op : Int) (a b : V) : V := if 3 ≤ op ∧ op ≤ 6 then sumsG op a b else if op = 7 then catG text a b else comparedG op a b
theorem size_mk (l : List UInt8) : (⟨l.toArray⟩ : ByteArray).size = l.length := List.size_toArray
theorem len_data (b : ByteArray) : b.data.toList.length = b.size := Array.length_toList
theorem numS_len (n : Nat) : (numS n).size = Lib.nDigits n := by
  rw [← Lib.decDigits_length]
  exact size_mk _
theorem numS_le (n : Nat) (h : n < 18446744073709551616) : (numS n).size ≤ 20 := by
  rw [numS_len]
  by_cases h0 : n = 0
  · rw [Lib.nDigits_small (by omega)]
    decide
  · have := Lib.numDigits_eq n (by omega) h
    split at this <;> omega
theorem numS_pos (n : Nat) (h : 1 ≤ n) : 1 ≤ (numS n).size := by
  rw [numS_len]
  rcases Nat.eq_zero_or_pos (Lib.nDigits n) with h0 | h0
  · have := Lib.lt_pow_nDigits n
    rw [h0] at this
    omega
  · exact h0
theorem trim_le (l : List UInt8) (c : UInt8) : (Lib.trimRightB l c).length ≤ l.length := by
  unfold Lib.trimRightB
  rw [List.length_reverse]
  exact Nat.le_trans (List.IsSuffix.length_le (List.dropWhile_suffix _)) (by rw [List.length_reverse]; exact Nat.le_refl _)
theorem fracS_le (r : Nat) (h : r < 10000) : (fracS r).size ≤ 20 := by
  have h1 : (fracS r).size = (Lib.trimRightB (((numS (10000 + r)).extract 1 (numS (10000 + r)).size).data.toList) 48).length := size_mk _
  have h2 := trim_le (((numS (10000 + r)).extract 1 (numS (10000 + r)).size).data.toList) 48
  have h3 : (((numS (10000 + r)).extract 1 (numS (10000 + r)).size).data.toList).length = ((numS (10000 + r)).extract 1 (numS (10000 + r)).size).size := len_data _
  have h4 := numS_le (10000 + r) (by omega)
  rw [ByteArray.size_extract] at h3
  omega
theorem fmt_num (u : Nat) (hu64 : u < 18446744073709551616) (w : World) (htab : Pow10 w) : Calls Tryz.prog 177 #[.int .u64 u, .int .i64 10] w fun e w' => e = .returned (.string (numS u)) ∧ Below w.heap.size w w' := by
  unfold numS
  exact strconv_FormatUint u hu64 w htab
theorem trim_num (r z : Nat) (hz : 10000 + r = z) (hr : r < 10000) (w : World) : Calls Tryz.prog 178 #[.string ((numS z).extract 1 (numS z).size), .string ⟨#[48]⟩] w fun e w' => e = .returned (.string (fracS r)) ∧ w' = w := by
  subst hz
  have h4 := numS_le (10000 + r) (by omega)
  have h5 : ((numS (10000 + r)).extract 1 (numS (10000 + r)).size).size ≤ 9223372036854775807 := by
    rw [ByteArray.size_extract]
    omega
  have h6 := Tryz.strings_TrimRight_one ((numS (10000 + r)).extract 1 (numS (10000 + r)).size) 48 (by decide) w h5
  have e : fracS r = ⟨(Lib.trimRightB (((numS (10000 + r)).extract 1 (numS (10000 + r)).size).data.toList) 48).toArray⟩ := rfl
  rw [e]
  exact h6
set_option maxRecDepth 100000 in
theorem dec_Print (x : Int) (h : Is64 x) (w : World) (hp : Pow10 w) : Calls Tryz.prog 101 #[.int .i64 x] w fun e w' => e = .returned (.string (printS x)) ∧ Below w.heap.size w w' := by
  by_cases h1 : x = minI
  · rw [show printS x = ⟨#[]⟩ from if_pos h1]
    clear h
    go_enter Tryz.func101, Tryz.ntmps101
    go_wp2_with (go_at_call 102; refine (dec_May _ _).mono ?_; rintro e w1 ⟨rfl, rfl⟩)
    go_ret
    exact ⟨rfl, (by (with_reducible repeat' (first | exact .refl _ _ | assumption | refine bmP ?_ ?_ | refine baP ?_ _ ?_ | refine .drew ?_ | refine .setCell ?_ ?_ _ | refine bdP ?_ _)) <;> go_size)⟩
  have m1 : (x != minI) = true := by simp [h1]
  have na := natAbs_lt h
  have es : printS x = if x.natAbs % 10000 = 0 then headS x else headS x ++ ((⟨#[46]⟩ : ByteArray) ++ fracS (x.natAbs % 10000)) := if_neg h1
  have eh : headS x = if x < 0 then (⟨#[45]⟩ : ByteArray) ++ numS (x.natAbs / 10000) else numS (x.natAbs / 10000) := rfl
  obtain ⟨n, hn⟩ : ∃ n, x.natAbs = n := ⟨_, rfl⟩
  rw [hn] at na es eh
  obtain ⟨k, hk⟩ : ∃ k, n / 10000 = k := ⟨_, rfl⟩
  obtain ⟨r, hr⟩ : ∃ r, n % 10000 = r := ⟨_, rfl⟩
  rw [hk] at eh
  rw [hr] at es
  have k1 : (n : Int) / 10000 = (k : Int) := by omega
  have k2 : (n : Int) % 10000 = (r : Int) := by omega
  have k3 : IntKind.u64.wrap (k : Int) = (k : Int) := by rw [IntKind.wrap_u64]; omega
  obtain ⟨z, hz⟩ : ∃ z, 10000 + r = z := ⟨_, rfl⟩
  have k4 : IntKind.u64.wrap (10000 + (r : Int)) = (z : Int) := by rw [IntKind.wrap_u64]; omega
  have KZ := Lib.hid (show z < 18446744073709551616 by omega)
  have KK := Lib.hid (show k < 18446744073709551616 by omega)
  have sk := numS_le k (by omega)
  have sz := numS_le z (by omega)
  have sz1 := numS_pos z (by omega)
  have sr := fracS_le r (by omega)
  have HR := Lib.hid (show r < 10000 by omega)
  obtain ⟨tk, htk⟩ : ∃ t, numS k = t := ⟨_, rfl⟩
  obtain ⟨tz, htz⟩ : ∃ t, numS z = t := ⟨_, rfl⟩
  obtain ⟨tf, htf⟩ : ∃ t, fracS r = t := ⟨_, rfl⟩
  rw [htk] at eh sk
  rw [htz] at sz sz1
  rw [htf] at es sr
  have HTK := Lib.hid htk
  have HTZ := Lib.hid htz
  have HTF := Lib.hid htf
  have HTR := Lib.hid (show ∀ w, Calls Tryz.prog 178 #[.string (tz.extract 1 tz.size), .string ⟨#[48]⟩] w fun e w' => e = .returned (.string tf) ∧ w' = w from fun w => by have h := trim_num r z hz (by omega) w; rw [htz, htf] at h; exact h)
  clear htk htz htf
  have HZ := Lib.hid hz
  have HN := Lib.hid hn
  have HX := Lib.hid h
  have ES := Lib.hid es
  have EH := Lib.hid eh
  have HP := Lib.hid hp
  clear hz hn h es eh hp hk hr na
  go_enter Tryz.func101, Tryz.ntmps101
  go_wp2_with (first
    | (go_at_call 102; refine (dec_May _ _).mono ?_; rintro e w1 ⟨rfl, rfl⟩)
    | (go_at_call 151; refine (dec_size x HX.out _).mono ?_; rw [HN.out]; rintro e w1 ⟨rfl, rfl⟩)
    | (go_at_call_of 177 (Value.int .u64 (k : Int)); refine (fmt_num k KK.out _ (HP.out.below (by (with_reducible repeat' (first | exact .refl _ _ | assumption | refine bmP ?_ ?_ | refine baP ?_ _ ?_ | refine .drew ?_ | refine .setCell ?_ ?_ _ | refine bdP ?_ _)) <;> go_size) (Nat.le_refl _))).mono ?_; rw [HTK.out]; rintro e w1 ⟨rfl, hb⟩; obtain ⟨l1, l2, rfl⟩ := more_of_below hb; clear hb)
    | (go_at_call_of 177 (Value.int .u64 (z : Int)); refine (fmt_num z KZ.out _ (HP.out.below (by (with_reducible repeat' (first | exact .refl _ _ | assumption | refine bmP ?_ ?_ | refine baP ?_ _ ?_ | refine .drew ?_ | refine .setCell ?_ ?_ _ | refine bdP ?_ _)) <;> go_size) (Nat.le_refl _))).mono ?_; rw [HTZ.out]; rintro e w1 ⟨rfl, hb⟩; obtain ⟨l3, l4, rfl⟩ := more_of_below hb; clear hb)
    | (go_at_call 178; refine (HTR.out _).mono ?_; rintro e w1 ⟨rfl, rfl⟩))
  all_goals go_ret
  all_goals refine ⟨congrArg (fun s => Ending.returned (Value.string s)) (?_ : _ = _), (by (with_reducible repeat' (first | exact .refl _ _ | assumption | refine bmP ?_ ?_ | refine baP ?_ _ ?_ | refine .drew ?_ | refine .setCell ?_ ?_ _ | refine bdP ?_ _)) <;> go_size)⟩
  all_goals rw [ES.out, EH.out]
  all_goals clear HTR HTK HTZ HTF ES EH HP HX HN HZ HR KZ KK
  all_goals by_cases hx : x < 0
  all_goals by_cases hr0 : r = 0
  all_goals simp_all [lowX]
  all_goals try omega
theorem idx_bool (b : Bool) (w : World) : (Instr.index 154 (.agg #[.string ⟨#[70, 65, 76, 83, 69]⟩, .string ⟨#[84, 82, 85, 69]⟩]) (.int .i64 (truthI b))).run Tryz.prog w = .ok (.string (if b then ⟨#[84, 82, 85, 69]⟩ else ⟨#[70, 65, 76, 83, 69]⟩)) w := by
  cases b
  all_goals (show _ = _; kernel_rfl)
theorem value_AsText (v : V) (h : Is64 v.num) (w : World) (hp : Pow10 w) : Calls Tryz.prog 35 #[(Value.agg #[Value.int .i64 v.tag, Value.int .i64 v.num, Value.string v.str, Value.bool v.is, Value.int .i64 v.code])] w fun e w' => e = .returned (.tuple #[.string (asTxtG v).1, .int .i64 (asTxtG v).2]) ∧ Below w.heap.size w w' := by
  have HP := Lib.hid hp
  have HX := Lib.hid h
  clear hp h
  by_cases hm : mayG v = false
  · rw [show asTxtG v = (⟨#[]⟩, 8) from if_pos hm]
    go_enter Tryz.func35, Tryz.ntmps35
    go_wp2_with (go_at_call 50; refine (value_May v _).mono ?_; rintro e w1 ⟨rfl, hb⟩; obtain ⟨l1, l2, rfl⟩ := more_of_below hb; clear hb)
    go_ret2
    exact ⟨rfl, (by (with_reducible repeat' (first | exact .refl _ _ | assumption | refine bmP ?_ ?_ | refine baP ?_ _ ?_ | refine .drew ?_ | refine .setCell ?_ ?_ _ | refine bdP ?_ _)) <;> go_size)⟩
  have e1 : asTxtG v = if v.tag = 4 then (⟨#[]⟩, v.code) else if v.tag = 1 then (printS v.num, 0) else if v.tag = 3 then (if v.is then ⟨#[84, 82, 85, 69]⟩ else ⟨#[70, 65, 76, 83, 69]⟩, 0) else (v.str, 0) := if_neg hm
  replace hm : mayG v = true := by simpa using hm
  by_cases h4 : v.tag = 4
  · rw [e1, if_pos h4]
    have k4 : (v.tag == 4) = true := by simp [h4]
    clear e1 h4
    go_enter Tryz.func35, Tryz.ntmps35
    go_wp2_with (go_at_call 50; refine (value_May v _).mono ?_; rintro e w1 ⟨rfl, hb⟩; obtain ⟨l1, l2, rfl⟩ := more_of_below hb; clear hb)
    go_quiet (fail)
    all_goals go_wp2
    all_goals go_ret2
    all_goals exact ⟨rfl, (by (with_reducible repeat' (first | exact .refl _ _ | assumption | refine bmP ?_ ?_ | refine baP ?_ _ ?_ | refine .drew ?_ | refine .setCell ?_ ?_ _ | refine bdP ?_ _)) <;> go_size)⟩
  rw [if_neg h4] at e1
  have k4 : (v.tag == 4) = false := by simp [h4]
  by_cases h1 : v.tag = 1
  · rw [e1, if_pos h1]
    have k1 : (v.tag == 1) = true := by simp [h1]
    clear e1 h4 h1
    go_enter Tryz.func35, Tryz.ntmps35
    go_wp2_with (first
      | (go_at_call 50; refine (value_May v _).mono ?_; rintro e w1 ⟨rfl, hb⟩; obtain ⟨l1, l2, rfl⟩ := more_of_below hb; clear hb)
      | (go_at_call 101; refine (dec_Print v.num HX.out _ (HP.out.below (by (with_reducible repeat' (first | exact .refl _ _ | assumption | refine bmP ?_ ?_ | refine baP ?_ _ ?_ | refine .drew ?_ | refine .setCell ?_ ?_ _ | refine bdP ?_ _)) <;> go_size) (Nat.le_refl _))).mono ?_; rintro e w1 ⟨rfl, hb⟩; obtain ⟨l3, l4, rfl⟩ := more_of_below hb; clear hb))
    go_ret2
    exact ⟨rfl, (by (with_reducible repeat' (first | exact .refl _ _ | assumption | refine bmP ?_ ?_ | refine baP ?_ _ ?_ | refine .drew ?_ | refine .setCell ?_ ?_ _ | refine bdP ?_ _)) <;> go_size)⟩
  rw [if_neg h1] at e1
  have k1 : (v.tag == 1) = false := by simp [h1]
  by_cases h3 : v.tag = 3
  · rw [e1, if_pos h3]
    have k3 : (v.tag == 3) = true := by simp [h3]
    have q := idx_bool
    clear e1 h4 h1 h3
    go_enter Tryz.func35, Tryz.ntmps35
    go_wp2_with (first
      | (go_at_call 50; refine (value_May v _).mono ?_; rintro e w1 ⟨rfl, hb⟩; obtain ⟨l1, l2, rfl⟩ := more_of_below hb; clear hb)
      | (go_at_call 79; refine (value_truth _ _).mono ?_; rintro e w1 ⟨rfl, rfl⟩))
    all_goals go_ret2
    all_goals exact ⟨rfl, (by (with_reducible repeat' (first | exact .refl _ _ | assumption | refine bmP ?_ ?_ | refine baP ?_ _ ?_ | refine .drew ?_ | refine .setCell ?_ ?_ _ | refine bdP ?_ _)) <;> go_size)⟩
  rw [if_neg h3] at e1
  have k3 : (v.tag == 3) = false := by simp [h3]
  rw [e1]
  clear e1 h4 h1 h3
  go_enter Tryz.func35, Tryz.ntmps35
  go_wp2_with (go_at_call 50; refine (value_May v _).mono ?_; rintro e w1 ⟨rfl, hb⟩; obtain ⟨l1, l2, rfl⟩ := more_of_below hb; clear hb)
  go_ret2
  exact ⟨rfl, (by (with_reducible repeat' (first | exact .refl _ _ | assumption | refine bmP ?_ ?_ | refine baP ?_ _ ?_ | refine .drew ?_ | refine .setCell ?_ ?_ _ | refine bdP ?_ _)) <;> go_size)⟩
end Go.Proofs.YtegbhdeaicgpkaaGreatDoor
