/-
  Parts of a proof: AggS, AggJ, AggK.
-/
import Derived.Test.YtegbhdeaicgpkaaGreatDoorJ36
import Derived.Test.YtegbhdeaicgpkaaGreatDoorJ41
import Derived.Test.YtegbhdeaicgpkaaGreatDoorJ33
import Derived.Test.YtegbhdeaicgpkaaGreatDoorJ12
import Derived.Test.YtegbhdeaicgpkaaGreatDoorJ38
import Derived.Test.YtegbhdeaicgpkaaGreatDoorJ42
set_option linter.all false
namespace Go.Proofs.YtegbhdeaicgpkaaGreatDoor
open Go Go.RowKit Go.Shelf
attribute [local go_sem] Oper.semAt_some
theorem values_call (A : Option Addr) (n c : Nat) (w : World) : Calls Tryz.prog 188 #[.slice A n c] w fun e w' => e = .returned (.func (.func 237) #[] #[.pointer (some ⟨w.heap.size, 0, none⟩)]) ∧ w' = w.alloc (.cells #[.slice A n c] 97) := by
  go_enter Tryz.func188, Tryz.ntmps188
  go_wp2
  all_goals go_ret
  all_goals exact ⟨rfl, rfl⟩
set_option maxRecDepth 100000 in
set_option maxHeartbeats 4000000 in
theorem values_seq (m : Nat) (h1n : 1 ≤ m) (bS bW n2 : Nat) (hne : bS ≠ bW) (hn : bS < n2) (l : List Int) (hml : l.length ≤ 1000000000000) (A : Option Addr) (c B : Nat) (hB : B ≤ n2) (hBW : B ≤ bW) (w : World) (hn2w : n2 ≤ w.heap.size) (hr : Reads w B 1 A l.length (I l)) (hs : w.cell? ⟨bS, 0, none⟩ = some (.slice A l.length c)) :
    SeqT Fence.wide m Tryz.prog 237 #[.pointer (some ⟨bS, 0, none⟩)] (fun x : Int => #[.int .i64 x]) (KeptBut bW n2) (fun xs => xs = l) l.length w := by
  intro lp J W hW hJ hY h0
  have c1 := (hW.cell (p := ⟨bS, 0, none⟩) (show bS < w.heap.size by omega)).trans hs
  have hWs := hW.size
  have HR := Lib.hid (show Reads W B 1 A l.length (I l) from hr.below (hW.mono (by omega)))
  clear hr
  refine callsIn_of_wp Tryz.func237 rfl trivial ?_ rfl
  simp only [Tryz.ntmps237, List.size_toArray, List.length_cons, List.length_nil, Nat.reduceAdd, Nat.reduceSub, Array.replicate_succ, Array.replicate_zero, List.push_toArray, List.append_toArray, List.nil_append, List.cons_append]
  gi_wp2
  gi_loopw [7] (fun t wr => ∃ (j : Nat), j ≤ l.length ∧ t = .int .i64 j ∧ J (l.take j) wr ∧ KeptBut bW n2 W wr) (fun t _ => l.length - (intOf t).toNat)
  case atStart => exact ⟨0, Nat.zero_le _, rfl, h0, Nat.le_refl _, fun _ _ _ => rfl⟩
  case round =>
    obtain ⟨j, hj, rfl, hJs, hK⟩ := hrel
    by_cases hlt : j < l.length
    · obtain ⟨x, hx⟩ : ∃ x, l[j]? = some x := ⟨_, List.getElem?_eq_getElem hlt⟩
      obtain ⟨bk, off, rfl, hbB, hc⟩ := HR.out.2 (by omega)
      have c0 : wr.cell? ⟨bk, off + j, none⟩ = some (.int .i64 x) := hK.cell (by omega) (by omega) (hc j (.int .i64 x) (by simp [I, hx]))
      obtain ⟨fn, tmps, assign, body, hy, hR⟩ := hY (l.take j) x wr hJs (by rw [List.length_take]; omega)
      have HX := Lib.hid hx
      have HKK := Lib.hid hK
      clear hx hc hK
      gi_wp2
      refine hR.mono ?_
      rintro e W2 ⟨rfl, hJ2, hk2⟩
      gi_wp2
      go_roundw
      case rel => exact ⟨j + 1, by omega, by go_num, by rw [take_one HX.out]; exact hJ2, Nat.le_trans HKK.out.1 hk2.1, fun k h1 h2 => (hk2.2 k h1 h2).trans (HKK.out.2 k h1 h2)⟩
      case measure => simp [intOf]; omega
    · obtain rfl : j = l.length := by omega
      rw [List.take_of_length_le (Nat.le_refl _)] at hJs
      gi_wp2
      go_end0
      exact ⟨⟨_, rfl⟩, l, rfl, hJs⟩
set_option maxRecDepth 100000 in
set_option maxHeartbeats 4000000 in
theorem append_seq (l : List Int) (hml : l.length ≤ 1000000000000) (A : Option Addr) (c bS : Nat) (w : World) (hr : Reads w w.heap.size 1 A l.length (I l)) (hs : w.cell? ⟨bS, 0, none⟩ = some (.slice A l.length c)) (hbS : bS < w.heap.size) :
    Calls Tryz.prog 276 #[.slice none 0 0, .func (.func 237) #[] #[.pointer (some ⟨bS, 0, none⟩)]] w fun e w' => ∃ v, e = .returned v ∧ w'.ownsRow w.heap.size 2 1 v l.length (I l) ∧ Below w.heap.size w w' := by
  obtain ⟨i0, hi, hz0, hz1, hz2⟩ := info_parts info_I
  refine (callsIn_wide (n := 4)).1 ?_
  refine callsIn_of_wp_marks Tryz.func276 rfl trivial ?_ rfl
  simp only [Tryz.ntmps276, List.size_toArray, List.length_cons, List.length_nil, Nat.reduceAdd, Nat.reduceSub, Array.replicate_succ, Array.replicate_zero, List.push_toArray, List.append_toArray, List.nil_append, List.cons_append]
  gi_wp2
  obtain ⟨W0, hW0⟩ : ∃ W0, w.alloc (.cells #[.slice none 0 0] 97) = W0 := ⟨_, rfl⟩
  have hsz : W0.heap.size = w.heap.size + 1 := by rw [← hW0]; simp
  have hB0 : Below w.heap.size w W0 := by rw [← hW0]; exact (by (with_reducible repeat' (first | exact .refl _ _ | assumption | refine bmP ?_ ?_ | refine baP ?_ _ ?_ | refine .drew ?_ | refine .setCell ?_ ?_ _ | refine bdP ?_ _)) <;> go_size)
  have bW : Boxed W0 w.heap.size 97 (.slice none 0 0) := by rw [← hW0]; exact Boxed.new w _ _
  have k1 : W0.cell? ⟨bS, 0, none⟩ = some (.slice A l.length c) := cell_below hs hB0
  have hseq := values_seq 3 (by decide) bS w.heap.size (w.heap.size + 1) (by omega) (by omega) l hml A c w.heap.size (by omega) (by omega) W0 (by omega) (hr.below hB0) k1
  rw [hW0]
  refine range_ownT rfl (by decide) (gf := 237) (lb := #[.pointer (some ⟨bS, 0, none⟩)]) rfl trivial (enters_of Tryz.func237 (by kernel_rfl) rfl) hseq ?kt ?kb (fun _ => rfl)
    (fun pre W => (∃ v, Boxed W w.heap.size 97 v ∧ W.ownsRow W0.heap.size 2 1 v pre.length (I pre)) ∧ Below w.heap.size w W ∧ W0.heap.size ≤ W.heap.size) ?own ?start
    (fun x => { tmps := #[.slice none 0 0, .func (.func 237) #[] #[.pointer (some ⟨bS, 0, none⟩)], .pointer (some ⟨w.heap.size, 0, none⟩), undef, .slice none 0 0, .int .i64 x, .func (.func 237) #[] #[.pointer (some ⟨bS, 0, none⟩)], .int .i64 x, undef, undef, undef, undef, undef], defers := [] }) ?assign ?body ?done
  case kt => exact fun h k => ⟨Nat.le_trans h.1 k.1, fun j hj h2 => (k.2 j hj h2).trans (h.2 j hj h2)⟩
  case kb => exact fun W l o' hl => ⟨by simp [World.putObj], fun j _ h2 => World.putObj_heap_other (by omega)⟩
  case own =>
    rintro pre A B row ⟨⟨v, hv, hr⟩, hb, hsz2⟩ hg hrow
    refine ⟨⟨v, hv.kept hg (fun e => ?_), hr.kept hg ?_⟩, hb.grown hg (by have := hb.size; omega) (fun k e => ?_), by have := hg.size; omega⟩
    · have h := hrow _ e.symm
      omega
    · rcases hr.2 with ⟨rfl, _⟩ | ⟨g, cap, cur, rfl, hge, hgb, _⟩
      · exact .inl rfl
      · refine .inr fun e' => ?_
        obtain ⟨_, o, ho, hc⟩ := hrow g e'.symm
        rw [hgb] at ho
        cases ho
        cases hc
    · have h := hrow _ e
      omega
  case start => exact ⟨⟨_, bW, World.ownsRow_nil _ _ _ _⟩, hB0, Nat.le_refl _⟩
  case assign =>
    intro l x W K hK
    gi_wp2
    exact hK
  case body =>
    rintro lp pre x W ⟨⟨v, hv, hrow⟩, hB, hsz2⟩ hlt
    have hc := hv.cell
    have hml : maxLen = 9223372036854775807 := by decide
    gi_wp2_with (gi_at_builtin; refine wpListIn_append_own _ rfl _ _ 97 rfl W0.heap.size 2 i0 (.int .i64 0) 1 8 Tryz.underlying97 hi hz0 hz1 hz2 rfl (by decide) _ _ _ rfl (hrow.alloc _) ⟨W.heap.size, 0, none⟩ 1 1 [.int .i64 x] rfl rfl (cell_one_new _ _ _) (by simp [Value.oneCell']) (by omega) (by omega) (by simp; omega) ?_; intro v' w1 hown' hgrow _; obtain ⟨g', cap', rfl⟩ := ownsRow_succ hown'; obtain ⟨hv1, hv2, hr2, hk2, hb2, hkb⟩ := box_appended (b0 := w.heap.size) hv (by decide) hrow hsz2 (Nat.le_refl _) (by omega) hown' hgrow; have hc1 := hv1.cell; have hf1 := hv1.frozen)
    exact ⟨hk2, ⟨hkb.1, fun j hj h3 => hkb.2 j hj (by omega)⟩, ⟨_, hv2, by simpa [I] using hr2⟩, hB.trans hb2, by have := hkb.1; omega⟩
  case done =>
    rintro D ys W hD rfl ⟨⟨v, hv, hrow⟩, hB, hsz2⟩ hK
    have hc := hv.cell
    gi_wp2_with (refine ⟨trivial, ?_⟩)
    refine ⟨by simp, .inl ⟨_, _, rfl, run_takeDeferred hK, ?_⟩⟩
    refine ⟨_, results_tmp rfl _ _ _, v, rfl, ?_, ?_⟩
    · refine own_base (hrow.kept (grownBy_putObj' W D _) ?_) (by omega)
      rcases hrow.2 with ⟨rfl, _⟩ | ⟨g, cap, cur, rfl, hge, hgb, _⟩
      · exact .inl rfl
      · refine .inr fun e' => ?_
        have e2 : g = D := by simpa [Value.ownBlock] using e'
        subst e2
        rw [hgb] at hK
        cases hK
    · exact hB.trans (belowK_b (w := w) (Nat.le_refl _) W D _ _ (by omega) hK rfl rfl)
theorem collect_call (l : List Int) (hml : l.length ≤ 1000000000000) (A : Option Addr) (c bS : Nat) (w : World) (hr : Reads w w.heap.size 1 A l.length (I l)) (hs : w.cell? ⟨bS, 0, none⟩ = some (.slice A l.length c)) (hbS : bS < w.heap.size) :
    Calls Tryz.prog 236 #[.func (.func 237) #[] #[.pointer (some ⟨bS, 0, none⟩)]] w fun e w' => ∃ A' c', e = .returned (.slice A' l.length c') ∧ w'.ownsRow w.heap.size 2 1 (.slice A' l.length c') l.length (I l) ∧ Below w.heap.size w w' := by
  have HA := Lib.hid (append_seq l hml A c bS w hr hs hbS)
  obtain ⟨n, hn⟩ : ∃ n, n = l.length := ⟨_, rfl⟩
  rw [← hn] at HA ⊢
  clear hr hs hml hn
  go_enter Tryz.func236, Tryz.ntmps236
  go_wp2_with (go_at_call 276; refine HA.out.mono ?_; rintro e w1 ⟨v, rfl, ho, hb⟩; obtain ⟨A', c', rfl⟩ := own_sliceN ho; have HO := Lib.hid ho; have HB := Lib.hid hb; clear ho hb)
  all_goals go_ret
  all_goals exact ⟨_, _, rfl, HO.out, HB.out⟩
def sortG (l : List Int) : List Int := l.mergeSort fun x y => decide (x ≤ y)
theorem sortG_length (l : List Int) : (sortG l).length = l.length := List.length_mergeSort _
theorem sortG_mem (l : List Int) (x : Int) : x ∈ sortG l ↔ x ∈ l := List.mem_mergeSort
theorem sort_own (l : List Int) (hml : l.length ≤ 1000000000000) (A : Option Addr) (c base b0 : Nat) (w0 w : World) (h0 : Below b0 w0 w) (hb0 : b0 ≤ base) (hsz : b0 ≤ w0.heap.size) (ho : w.ownsRow base 2 1 (.slice A l.length c) l.length (I l)) :
    Calls Tryz.prog 193 #[.slice A l.length c] w fun e w' => e = .returned (.tuple #[]) ∧ w'.ownsRow base 2 1 (.slice A l.length c) l.length (I (sortG l)) ∧ Below b0 w0 w' := by
  rcases ho.2 with ⟨h1, hz⟩ | ⟨gb, cap, cur, h1, hbase, hgb, r1, r2, r3, r4⟩
  · have hl : l = [] := List.eq_nil_of_length_eq_zero hz
    subst hl
    refine (AnyM.slices_Sort_int_none Tryz.sort193 A c w).mono ?_
    rintro e w' ⟨rfl, rfl⟩
    exact ⟨rfl, by rw [show sortG [] = [] from by simp [sortG]]; exact ho, h0⟩
  · injection h1 with h1 h2 h3
    subst h1 h3
    have hH : Go.Sort.Holds encZ w gb 0 l.toArray := holds_of_block_i hgb (by simpa [I] using r4)
    have hgl : gb < w.heap.size := (Array.getElem?_eq_some_iff.1 hgb).1
    refine (AnyM.slices_Sort_int Tryz.sort193 gb 0 c l w hH hgl (by omega)).mono ?_
    rintro e w' ⟨rfl, nn, os, rfl⟩
    have hs := ownsRow_sorted_i (n := nn) (os := os) (ss := l) (ts := sortG l) (sortG_length l) hbase hgb r1 r2 r3
    exact ⟨rfl, hs, h0.grown (grownBy_sorted_i _) (Nat.le_trans hsz h0.size) (fun j hj => by cases hj; omega)⟩
theorem sorted_call (l : List Int) (hml : l.length ≤ 1000000000000) (A : Option Addr) (c bS : Nat) (w : World) (hr : Reads w w.heap.size 1 A l.length (I l)) (hs : w.cell? ⟨bS, 0, none⟩ = some (.slice A l.length c)) (hbS : bS < w.heap.size) :
    Calls Tryz.prog 187 #[.func (.func 237) #[] #[.pointer (some ⟨bS, 0, none⟩)]] w fun e w' => ∃ A' c', e = .returned (.slice A' l.length c') ∧ w'.ownsRow w.heap.size 2 1 (.slice A' l.length c') l.length (I (sortG l)) ∧ Below w.heap.size w w' := by
  have HA := Lib.hid (collect_call l hml A c bS w hr hs hbS)
  have HS := Lib.hid (fun A c w' h0 ho => sort_own l hml A c w.heap.size w.heap.size w w' h0 (Nat.le_refl _) (Nat.le_refl _) ho)
  obtain ⟨n, hn⟩ : ∃ n, n = l.length := ⟨_, rfl⟩
  rw [← hn] at HA HS ⊢
  clear hr hs hml hn
  go_enter Tryz.func187, Tryz.ntmps187
  go_wp2_with (first | (go_at_call 236; refine HA.out.mono ?_; rintro e w1 ⟨A', c', rfl, ho, hb⟩; have HO := Lib.hid ho; have HB := Lib.hid hb; clear ho hb) | (go_at_call 193; refine (HS.out _ _ _ HB.out HO.out).mono ?_; rintro e w2 ⟨rfl, ho, hb⟩; have HO2 := Lib.hid ho; have HB2 := Lib.hid hb; clear ho hb))
  all_goals go_ret
  all_goals exact ⟨_, _, rfl, HO2.out, HB2.out⟩
theorem own_cap {w : World} {base e size n c : Nat} {A : Option Addr} {xs : List Value} (h : w.ownsRow base e size (.slice A n c) n xs) (hn : 0 < n) : n ≤ c := by
  rcases h.2 with ⟨_, h2⟩ | ⟨g, cap, cur, e1, hg, hh, h1, _⟩
  · omega
  · injection e1 with _ _ e3
    omega
def medianG (l : List Int) : Int := if l.length % 2 = 1 then (sortG l).getD (l.length / 2) 0 else meanG (((sortG l).drop (l.length / 2 - 1)).take 2)
theorem Reads.cut {w : World} {B : Nat} {A : Option Addr} {l : List Int} {n : Nat} (h : Reads w B 1 A n (I l)) {i m : Nat} (hm : 0 < m) (him : i + m ≤ n) : ∃ b off, A = some ⟨b, off, none⟩ ∧ Reads w B 1 (some ⟨b, off + i, none⟩) m (I ((l.drop i).take m)) := by
  have h1 := h.1
  obtain ⟨b, off, rfl, hb, hc⟩ := h.2 (by omega)
  refine ⟨b, off, rfl, ?_, fun _ => ⟨b, off + i, rfl, hb, fun j u hu => ?_⟩⟩
  · simp [I] at h1 ⊢
    omega
  · have := hc (i + j) u (by
      simp only [I, List.map_take, List.map_drop] at hu ⊢
      have hj : j < m := by
        have := (List.getElem?_eq_some_iff.1 hu).1
        rw [List.length_take] at this
        omega
      rw [List.getElem?_take_of_lt hj, List.getElem?_drop] at hu
      exact hu)
    rw [show off + i + j = off + (i + j) by omega]
    exact this
set_option maxRecDepth 100000 in
set_option maxHeartbeats 4000000 in
theorem aggs_median (l : List Int) (A : Option Addr) (c : Nat) (w : World) (hr : Reads w w.heap.size 1 A l.length (I l)) (hn : 0 < l.length) (hml : l.length ≤ 1000000000000) (h63 : ∀ x ∈ l, In63 x) :
    Calls Tryz.prog 112 #[.slice A l.length c] w fun e w' => e = .returned (.int .i64 (medianG l)) ∧ Below w.heap.size w w' := by
  have HS := Lib.hid (fun bS W (hb : Below w.heap.size w W) hs hbS => sorted_call l hml A c bS W ((hr.below hb).lift hb.size) hs hbS)
  obtain ⟨s, hs⟩ : ∃ s, sortG l = s := ⟨_, rfl⟩
  have hs63 : ∀ x ∈ s, In63 x := fun x hx => h63 x ((sortG_mem l x).1 (by rw [hs]; exact hx))
  have hsl : s.length = l.length := by rw [← hs]; exact sortG_length l
  unfold medianG
  rw [hs] at HS ⊢
  obtain ⟨n, hn2⟩ : ∃ n, n = l.length := ⟨_, rfl⟩
  rw [← hn2] at HS hsl hn hml ⊢
  clear hr h63 hs hn2
  obtain ⟨k, hk⟩ : ∃ k, k = n / 2 := ⟨_, rfl⟩
  have hq : (n : Int) / 2 = (k : Int) := by omega
  rw [← hk]
  have hkn : k < n := by omega
  by_cases hodd : n % 2 = 1
  · rw [if_pos hodd]
    have hm2 : (n : Int) % 2 = 1 := by omega
    have hI : (I s)[k]? = some (.int .i64 (s.getD k 0)) := by
      rw [List.getD_eq_getElem?_getD]
      simp [I, List.getElem?_eq_getElem (show k < s.length by omega)]
    obtain ⟨r, hr⟩ : ∃ r, s.getD k 0 = r := ⟨_, rfl⟩
    rw [hr] at hI ⊢
    have HI := Lib.hid hI
    clear hodd hk hI hr
    go_enter Tryz.func112, Tryz.ntmps112
    go_wp2_with (first | (go_at_call 188; refine (values_call _ _ _ _).mono ?_; rintro e w1 ⟨rfl, rfl⟩) | (go_at_call 187; refine (HS.out _ _ (by (with_reducible repeat' (first | exact .refl _ _ | assumption | refine bmP ?_ ?_ | refine baP ?_ _ ?_ | refine .drew ?_ | refine .setCell ?_ ?_ _ | refine bdP ?_ _)) <;> go_size) (by go_simp) (by simp)).mono ?_; rintro e w2 ⟨A', c', rfl, ho, hb⟩; obtain ⟨g, c2, e2, hgb, hg, hx⟩ := own_form ho hn; injection e2 with e3 _ e5; subst e3 e5; have c0 := hx k _ HI.out; have HB := Lib.hid hb; clear ho hb hx))
    all_goals go_ret
    all_goals exact ⟨rfl, HB.out.mono (by simp) |> (show Below w.heap.size w _ from (by (with_reducible repeat' (first | exact .refl _ _ | assumption | refine bmP ?_ ?_ | refine baP ?_ _ ?_ | refine .drew ?_ | refine .setCell ?_ ?_ _ | refine bdP ?_ _)) <;> go_size)).trans⟩
  · rw [if_neg hodd]
    have hm2 : (n : Int) % 2 = 0 := by omega
    have hk1 : 1 ≤ k := by omega
    obtain ⟨i, rfl⟩ : ∃ i, k = i + 1 := ⟨k - 1, by omega⟩
    rw [show i + 1 - 1 = i by omega]
    have HM := Lib.hid (fun W A' B' (h : Reads W B' 1 A' 2 (I ((s.drop i).take 2))) c' => aggs_mean ((s.drop i).take 2) A' 2 c' B' W h (by decide) (by decide) (fun x hx => hs63 x (List.mem_of_mem_drop (List.mem_of_mem_take hx))))
    obtain ⟨r, hr⟩ : ∃ r, meanG ((s.drop i).take 2) = r := ⟨_, rfl⟩
    rw [hr] at HM ⊢
    clear hodd hk hr
    go_enter Tryz.func112, Tryz.ntmps112
    go_wp2_with (first | (go_at_call 188; refine (values_call _ _ _ _).mono ?_; rintro e w1 ⟨rfl, rfl⟩) | (go_at_call 187; refine (HS.out _ _ (by (with_reducible repeat' (first | exact .refl _ _ | assumption | refine bmP ?_ ?_ | refine baP ?_ _ ?_ | refine .drew ?_ | refine .setCell ?_ ?_ _ | refine bdP ?_ _)) <;> go_size) (by go_simp) (by simp)).mono ?_; rintro e w2 ⟨A', c', rfl, ho, hb⟩; have hcap := own_cap ho hn; obtain ⟨g, c2, e2, hgb, hg, hx⟩ := own_form ho hn; injection e2 with e3 _ e5; subst e3 e5; have HO := Lib.hid ho; have HB := Lib.hid hb; clear ho hb hx))
    rw [show i + 1 + 1 - i = 2 by omega]
    obtain ⟨b', off', e', hR'⟩ := Reads.cut (Reads.of_own HO.out) (i := i) (m := 2) (by decide) (by omega)
    cases e'
    rw [Nat.zero_add] at hR'
    refine Calls.mono (HM.out _ _ _ hR' _) ?_
    rintro e w3 ⟨rfl, hb⟩
    have HB2 := Lib.hid hb
    clear hb hR'
    go_wp2
    all_goals go_ret
    all_goals exact ⟨rfl, ((show Below w.heap.size w _ from (by (with_reducible repeat' (first | exact .refl _ _ | assumption | refine bmP ?_ ?_ | refine baP ?_ _ ?_ | refine .drew ?_ | refine .setCell ?_ ?_ _ | refine bdP ?_ _)) <;> go_size)).trans (HB.out.mono (by simp))).trans (HB2.out.mono (by have := HB.out.size; simp at this; omega))⟩
end Go.Proofs.YtegbhdeaicgpkaaGreatDoor
namespace Go.Proofs.YtegbhdeaicgpkaaGreatDoor
open Go Go.RowKit
def largeG (p : Arg × List En) (v1 : V) : V :=
  if (intG v1).2 ≠ 0 then errG (intG v1).2 else if (amongG (itemsG [p])).2.tag = 4 then (amongG (itemsG [p])).2
  else if (intG v1).1 < 1 then errG 5 else if ((amongG (itemsG [p])).1.length : Int) < (intG v1).1 then errG 5
  else numG ((sortG (amongG (itemsG [p])).1).getD ((amongG (itemsG [p])).1.length - (intG v1).1.toNat) 0)
set_option maxRecDepth 100000 in
set_option maxHeartbeats 4000000 in
theorem aggs_LARGE (a0 a1 : Arg) (es : List En) (b off c : Nat) (tx : Int) (w : World) (hc1 : ∀ i u, a1.cells[i]? = some u → w.cell? ⟨b, off + 11 + i, none⟩ = some u) (hP : ArgsAt w [(a0, es)] (some ⟨b, off, none⟩) 1) (hcap : 2 ≤ c) (h1 : Is64 a1.val.num) :
    Calls Tryz.prog 122 #[.slice (some ⟨b, off, none⟩) 2 c, .int .i64 tx] w fun e w' => e = .returned (Value.agg #[Value.int .i64 (largeG (a0, es) a1.val).tag, Value.int .i64 (largeG (a0, es) a1.val).num, Value.string (largeG (a0, es) a1.val).str, Value.bool (largeG (a0, es) a1.val).is, Value.int .i64 (largeG (a0, es) a1.val).code]) ∧ Below w.heap.size w w' := by
  have HI := Lib.hid (fun W (hb : Below w.heap.size w W) c' => aggs_items [(a0, es)] (some ⟨b, off, none⟩) 1 c' W.heap.size W (hP.below hb).hr (hP.below hb).hE hP.hT hP.hm hP.hnn)
  have HA := Lib.hid (fun A' c' B' W (h : Reads W B' 5 A' (itemsG [(a0, es)]).length (flat (itemsG [(a0, es)]))) => aggs_among (itemsG [(a0, es)]) A' (itemsG [(a0, es)]).length c' B' W h hP.hT)
  have HI1 := Lib.hid (aggs_integer a1.val h1)
  have hT := hP.hT
  have hal := among_le (itemsG [(a0, es)])
  have d1 := hc1 1 _ rfl
  have d2 := hc1 2 _ rfl
  have d3 := hc1 3 _ rfl
  have d4 := hc1 4 _ rfl
  have d5 := hc1 5 _ rfl
  have hb : b < w.heap.size := World.block_lt_of_cell? w _ d1
  have hb1 : b < w.heap.size + 1 := by omega
  unfold largeG
  obtain ⟨us, hL⟩ : ∃ us, itemsG [(a0, es)] = us := ⟨_, rfl⟩
  rw [hL] at HI HA hT hal
  rw [hL]
  obtain ⟨ls, hls⟩ : ∃ ls, (amongG us).1 = ls := ⟨_, rfl⟩
  obtain ⟨f, hf0⟩ : ∃ f, (amongG us).2 = f := ⟨_, rfl⟩
  simp only [hls, hf0] at HA hal ⊢
  obtain ⟨k, hk⟩ : ∃ k, (intG a1.val).1 = k := ⟨_, rfl⟩
  obtain ⟨ck, hck⟩ : ∃ ck, (intG a1.val).2 = ck := ⟨_, rfl⟩
  rw [hk, hck] at HI1
  rw [hk, hck]
  clear hc1 hP h1 hL hls hf0 hk hck
  by_cases h1 : ck = 0
  · subst h1
    rw [if_neg (by simp)]
    by_cases h4 : f.tag = 4
    · have h4' : (f.tag == 4) = true := by simp [h4]
      rw [if_pos h4]
      clear h4
      go_enter Tryz.func122, Tryz.ntmps122
      go_wp2_with (first | (go_at_call_of 192 (Value.agg #[Value.int .i64 (a1.val).tag, Value.int .i64 (a1.val).num, Value.string (a1.val).str, Value.bool (a1.val).is, Value.int .i64 (a1.val).code]); refine (HI1.out _).mono ?_; rintro e w2 ⟨rfl, hb⟩; obtain ⟨m1, r1, rfl⟩ := more_of_below hb; clear hb) | (go_at_call 181; refine (HI.out _ (by (with_reducible repeat' (first | exact .refl _ _ | assumption | refine bmP ?_ ?_ | refine baP ?_ _ ?_ | refine .drew ?_ | refine .setCell ?_ ?_ _ | refine bdP ?_ _)) <;> go_size) _).mono ?_; rintro e w1 ⟨v, rfl, ho, hb⟩; obtain ⟨Ai, ci, rfl⟩ := own_sliceN ho; obtain ⟨l1, q1, rfl⟩ := more_of_below hb; clear hb; (try simp only [more_more, List.append_assoc] at ho); have HO := Lib.hid ho; clear ho) | (go_at_call 180; refine (HA.out _ _ _ _ (Reads.of_own HO.out)).mono ?_; rintro e w2 ⟨v, rfl, ho2, hb⟩; obtain ⟨Aj, cj, rfl⟩ := own_sliceN ho2; obtain ⟨l2, q2, rfl⟩ := more_of_below hb; clear hb; simp only [more_more, List.append_assoc] at ho2; have HO2 := Lib.hid ho2; clear ho2))
      all_goals go_returns
      all_goals exact ⟨rfl, (by (with_reducible repeat' (first | exact .refl _ _ | assumption | refine bmP ?_ ?_ | refine baP ?_ _ ?_ | refine .drew ?_ | refine .setCell ?_ ?_ _ | refine bdP ?_ _)) <;> go_size)⟩
    · have h4' : (f.tag == 4) = false := by simp [h4]
      rw [if_neg h4]
      by_cases g1 : k < 1
      · have g1' : (decide (k < 1)) = true := decide_eq_true g1
        rw [if_pos g1]
        clear g1 h4
        go_enter Tryz.func122, Tryz.ntmps122
        go_wp2_with (first | (go_at_call_of 192 (Value.agg #[Value.int .i64 (a1.val).tag, Value.int .i64 (a1.val).num, Value.string (a1.val).str, Value.bool (a1.val).is, Value.int .i64 (a1.val).code]); refine (HI1.out _).mono ?_; rintro e w2 ⟨rfl, hb⟩; obtain ⟨m1, r1, rfl⟩ := more_of_below hb; clear hb) | (go_at_call 181; refine (HI.out _ (by (with_reducible repeat' (first | exact .refl _ _ | assumption | refine bmP ?_ ?_ | refine baP ?_ _ ?_ | refine .drew ?_ | refine .setCell ?_ ?_ _ | refine bdP ?_ _)) <;> go_size) _).mono ?_; rintro e w1 ⟨v, rfl, ho, hb⟩; obtain ⟨Ai, ci, rfl⟩ := own_sliceN ho; obtain ⟨l1, q1, rfl⟩ := more_of_below hb; clear hb; (try simp only [more_more, List.append_assoc] at ho); have HO := Lib.hid ho; clear ho) | (go_at_call 180; refine (HA.out _ _ _ _ (Reads.of_own HO.out)).mono ?_; rintro e w2 ⟨v, rfl, ho2, hb⟩; obtain ⟨Aj, cj, rfl⟩ := own_sliceN ho2; obtain ⟨l2, q2, rfl⟩ := more_of_below hb; clear hb; simp only [more_more, List.append_assoc] at ho2; have HO2 := Lib.hid ho2; clear ho2) | (go_at_call 27; refine (value_Err _ _).mono ?_; rintro e w3 ⟨rfl, hb⟩; obtain ⟨l3, q3, rfl⟩ := more_of_below hb; clear hb))
        all_goals go_returns
        all_goals exact ⟨rfl, (by (with_reducible repeat' (first | exact .refl _ _ | assumption | refine bmP ?_ ?_ | refine baP ?_ _ ?_ | refine .drew ?_ | refine .setCell ?_ ?_ _ | refine bdP ?_ _)) <;> go_size)⟩
      · have g1' : (decide (k < 1)) = false := decide_eq_false g1
        rw [if_neg g1]
        by_cases g2 : (ls.length : Int) < k
        · have g2' : (decide ((ls.length : Int) < k)) = true := decide_eq_true g2
          rw [if_pos g2]
          clear g1 g2 h4
          go_enter Tryz.func122, Tryz.ntmps122
          go_wp2_with (first | (go_at_call_of 192 (Value.agg #[Value.int .i64 (a1.val).tag, Value.int .i64 (a1.val).num, Value.string (a1.val).str, Value.bool (a1.val).is, Value.int .i64 (a1.val).code]); refine (HI1.out _).mono ?_; rintro e w2 ⟨rfl, hb⟩; obtain ⟨m1, r1, rfl⟩ := more_of_below hb; clear hb) | (go_at_call 181; refine (HI.out _ (by (with_reducible repeat' (first | exact .refl _ _ | assumption | refine bmP ?_ ?_ | refine baP ?_ _ ?_ | refine .drew ?_ | refine .setCell ?_ ?_ _ | refine bdP ?_ _)) <;> go_size) _).mono ?_; rintro e w1 ⟨v, rfl, ho, hb⟩; obtain ⟨Ai, ci, rfl⟩ := own_sliceN ho; obtain ⟨l1, q1, rfl⟩ := more_of_below hb; clear hb; (try simp only [more_more, List.append_assoc] at ho); have HO := Lib.hid ho; clear ho) | (go_at_call 180; refine (HA.out _ _ _ _ (Reads.of_own HO.out)).mono ?_; rintro e w2 ⟨v, rfl, ho2, hb⟩; obtain ⟨Aj, cj, rfl⟩ := own_sliceN ho2; obtain ⟨l2, q2, rfl⟩ := more_of_below hb; clear hb; simp only [more_more, List.append_assoc] at ho2; have HO2 := Lib.hid ho2; clear ho2) | (go_at_call 27; refine (value_Err _ _).mono ?_; rintro e w3 ⟨rfl, hb⟩; obtain ⟨l3, q3, rfl⟩ := more_of_below hb; clear hb))
          all_goals go_returns
          all_goals exact ⟨rfl, (by (with_reducible repeat' (first | exact .refl _ _ | assumption | refine bmP ?_ ?_ | refine baP ?_ _ ?_ | refine .drew ?_ | refine .setCell ?_ ?_ _ | refine bdP ?_ _)) <;> go_size)⟩
        · have g2' : (decide ((ls.length : Int) < k)) = false := decide_eq_false g2
          rw [if_neg g2]
          have HS := Lib.hid (fun A c base W h0 hb0 ho => sort_own ls (by omega) A c base (w.alloc (.cells #[.int .i64 0, .int .i64 0, .string ⟨#[]⟩, .bool false, .int .i64 0] 29)).heap.size (w.alloc (.cells #[.int .i64 0, .int .i64 0, .string ⟨#[]⟩, .bool false, .int .i64 0] 29)) W h0 hb0 (Nat.le_refl _) ho)
          obtain ⟨sl, hsl⟩ : ∃ sl, sortG ls = sl := ⟨_, rfl⟩
          have hsn : sl.length = ls.length := by rw [← hsl]; exact sortG_length ls
          rw [hsl] at HS ⊢
          obtain ⟨n, hn⟩ : ∃ n, ls.length = n := ⟨_, rfl⟩
          rw [hn] at HS HA hal hsn g2 g2' ⊢
          obtain ⟨i0, hi0⟩ : ∃ i0, i0 = n - k.toNat := ⟨_, rfl⟩
          rw [← hi0]
          have hin : i0 < n := by omega
          have hn0 : 0 < n := by omega
          have s1 : wrap64 ((n : Int) - k) = (i0 : Int) := by rw [wr64] <;> omega
          have hI : (I sl)[i0]? = some (.int .i64 (sl.getD i0 0)) := by
            rw [List.getD_eq_getElem?_getD]
            simp [I, List.getElem?_eq_getElem (show i0 < sl.length by omega)]
          obtain ⟨r, hr⟩ : ∃ r, sl.getD i0 0 = r := ⟨_, rfl⟩
          rw [hr] at hI ⊢
          have HIX := Lib.hid hI
          clear g1 g2 h4 hsl hn hi0 hsn hI hr hal
          go_enter Tryz.func122, Tryz.ntmps122
          go_wp2_with (first | (go_at_call_of 192 (Value.agg #[Value.int .i64 (a1.val).tag, Value.int .i64 (a1.val).num, Value.string (a1.val).str, Value.bool (a1.val).is, Value.int .i64 (a1.val).code]); refine (HI1.out _).mono ?_; rintro e w2 ⟨rfl, hb⟩; obtain ⟨m1, r1, rfl⟩ := more_of_below hb; clear hb) | (go_at_call 181; refine (HI.out _ (by (with_reducible repeat' (first | exact .refl _ _ | assumption | refine bmP ?_ ?_ | refine baP ?_ _ ?_ | refine .drew ?_ | refine .setCell ?_ ?_ _ | refine bdP ?_ _)) <;> go_size) _).mono ?_; rintro e w1 ⟨v, rfl, ho, hb⟩; obtain ⟨Ai, ci, rfl⟩ := own_sliceN ho; obtain ⟨l1, q1, rfl⟩ := more_of_below hb; clear hb; (try simp only [more_more, List.append_assoc] at ho); have HO := Lib.hid ho; clear ho) | (go_at_call 180; refine (HA.out _ _ _ _ (Reads.of_own HO.out)).mono ?_; rintro e w2 ⟨v, rfl, ho2, hb⟩; obtain ⟨Aj, cj, rfl⟩ := own_sliceN ho2; obtain ⟨l2, q2, rfl⟩ := more_of_below hb; clear hb; simp only [more_more, List.append_assoc] at ho2; have HO2 := Lib.hid ho2; clear ho2) | (go_at_call 193; refine (HS.out _ _ _ _ (by (with_reducible repeat' (first | exact .refl _ _ | assumption | refine bmP ?_ ?_ | refine baP ?_ _ ?_ | refine .drew ?_ | refine .setCell ?_ ?_ _ | refine bdP ?_ _)) <;> go_size) (by simp) (own_below HO2.out (by (with_reducible repeat' (first | exact .refl _ _ | assumption | refine bmP ?_ ?_ | refine baP ?_ _ ?_ | refine .drew ?_ | refine .setCell ?_ ?_ _ | refine bdP ?_ _)) <;> go_size))).mono ?_; rintro e w5 ⟨rfl, ho5, hb5⟩; obtain ⟨ln, qn, rfl⟩ := more_of_below hb5; obtain ⟨g, c2, e2, hgb, hg, hx⟩ := own_form ho5 hn0; injection e2 with e3 _ e5; subst e3 e5; have x0 := hx i0 _ HIX.out; clear hb5 ho5 hx) | (go_at_call 56; refine (value_Num _ _).mono ?_; rintro e w3 ⟨rfl, hb⟩; obtain ⟨l3, q3, rfl⟩ := more_of_below hb; clear hb))
          all_goals go_returns
          all_goals exact ⟨rfl, (by (with_reducible repeat' (first | exact .refl _ _ | assumption | refine bmP ?_ ?_ | refine baP ?_ _ ?_ | refine .drew ?_ | refine .setCell ?_ ?_ _ | refine bdP ?_ _)) <;> go_size)⟩
  · have h1' : (ck != 0) = true := by simpa using h1
    rw [if_pos h1]
    clear h1
    go_enter Tryz.func122, Tryz.ntmps122
    go_wp2_with (first | (go_at_call_of 192 (Value.agg #[Value.int .i64 (a1.val).tag, Value.int .i64 (a1.val).num, Value.string (a1.val).str, Value.bool (a1.val).is, Value.int .i64 (a1.val).code]); refine (HI1.out _).mono ?_; rintro e w2 ⟨rfl, hb⟩; obtain ⟨m1, r1, rfl⟩ := more_of_below hb; clear hb) | (go_at_call 27; refine (value_Err _ _).mono ?_; rintro e w3 ⟨rfl, hb⟩; obtain ⟨l3, q3, rfl⟩ := more_of_below hb; clear hb))
    all_goals go_returns
    all_goals exact ⟨rfl, (by (with_reducible repeat' (first | exact .refl _ _ | assumption | refine bmP ?_ ?_ | refine baP ?_ _ ?_ | refine .drew ?_ | refine .setCell ?_ ?_ _ | refine bdP ?_ _)) <;> go_size)⟩
end Go.Proofs.YtegbhdeaicgpkaaGreatDoor
namespace Go.Proofs.YtegbhdeaicgpkaaGreatDoor
open Go Go.RowKit
def joinS (by' : ByteArray) (l : List ByteArray) : ByteArray := ⟨(Lib.join (l.map (·.data.toList)) by'.data.toList).toArray⟩
def joinGo (tx : Int) (by' : ByteArray) : Int → List V → List ByteArray → V
  | _, [], l => txtG (joinS by' l)
  | n, v :: r, l => if v.tag = 0 then joinGo tx by' n r l else if tx < n + ((by'.size : Int) + ((asTxtG v).1.size : Int)) then errG 7 else joinGo tx by' (n + ((by'.size : Int) + ((asTxtG v).1.size : Int))) r (l ++ [(asTxtG v).1])
def joinG (tx : Int) (p : Arg × List En) (pl : List (Arg × List En)) : V :=
  if (amongG (itemsG pl)).2.tag = 4 then (amongG (itemsG pl)).2 else joinGo tx (asTxtG p.1.val).1 (-((asTxtG p.1.val).1.size : Int)) (itemsG pl) []
theorem join_any (ws : List ByteArray) (sep : ByteArray) (v : Value) (base : Nat) (w : World) (h : w.ownsRow base 9 1 v ws.length (ws.map Value.string)) (hl : ws.length ≤ 20000000) (hx : ∀ x ∈ ws, x.size ≤ 1048576) (hs : sep.size ≤ 1048576) :
    Calls Tryz.prog 166 #[v, .string sep] w fun e w' => e = .returned (.string (joinS sep ws)) ∧ Below w.heap.size w w' := by
  have hlen : (Lib.join (ws.map (·.data.toList)) sep.data.toList).length ≤ 140737488355328 := by
    have h1 := join_le sep.data.toList 1048576 (ws.map (·.data.toList)) (fun x hx2 => by
      obtain ⟨y, hy, rfl⟩ := List.mem_map.1 hx2
      rw [Array.length_toList]
      exact hx y hy)
    rw [List.length_map] at h1
    have hss : sep.data.toList.length ≤ 1048576 := by rw [Array.length_toList]; exact hs
    have h2 : ws.length * (1048576 + sep.data.toList.length) ≤ 20000000 * (1048576 + 1048576) := Nat.mul_le_mul hl (by omega)
    omega
  rcases h.2 with ⟨rfl, h0⟩ | ⟨g, cap, cur, rfl, hb, hg, hnc, _, _, _⟩
  · obtain rfl : ws = [] := List.length_eq_zero_iff.1 h0
    refine (Tryz.strings_Join_none none 0 sep w).mono ?_
    rintro e w' ⟨rfl, rfl⟩
    exact ⟨rfl, Below.refl _ _⟩
  · have hlt : g < w.heap.size := (Array.getElem?_eq_some_iff.1 hg).1
    exact Tryz.strings_Join g 0 cap ws sep w (fun j x hj => by
      have := h.cells (g := g) rfl j (.string x) (by simp [hj])
      have e : (⟨g, 0, none⟩ : Addr).add j = ⟨g, 0 + j, none⟩ := by unfold Addr.add; split <;> simp_all
      rw [e] at this
      exact this) hlt (by omega) hnc hlen
set_option maxRecDepth 100000 in
set_option maxHeartbeats 4000000 in
theorem aggs_JOIN (a0 : Arg) (es0 : List En) (pl : List (Arg × List En)) (n b off c : Nat) (tx : Int) (htx : -1 ≤ tx ∧ tx ≤ 1024) (w : World) (hc0 : ∀ i u, a0.cells[i]? = some u → w.cell? ⟨b, off + 0 + i, none⟩ = some u) (hP : ArgsAt w pl (some ⟨b, off + 11, none⟩) n) (hn1 : 1 ≤ n) (hcap : n + 1 ≤ c) (h1 : Is64 a0.val.num) (hs0 : a0.val.str.size ≤ 1048576) (hsz : ∀ v ∈ itemsG pl, v.str.size ≤ 1048576) (hT7 : (itemsG pl).length ≤ 20000000) (hp : Pow10 w) :
    Calls Tryz.prog 123 #[.slice (some ⟨b, off, none⟩) (n + 1) c, .int .i64 tx] w fun e w' => e = .returned (Value.agg #[Value.int .i64 (joinG tx (a0, es0) pl).tag, Value.int .i64 (joinG tx (a0, es0) pl).num, Value.string (joinG tx (a0, es0) pl).str, Value.bool (joinG tx (a0, es0) pl).is, Value.int .i64 (joinG tx (a0, es0) pl).code]) ∧ Below w.heap.size w w' := by
  have HI := Lib.hid (fun W (hb : Below w.heap.size w W) c' => aggs_items pl (some ⟨b, off + 11, none⟩) n c' W.heap.size W (hP.below hb).hr (hP.below hb).hE hP.hT hP.hm hP.hnn)
  have HA := Lib.hid (fun A' c' B' W (h : Reads W B' 5 A' (itemsG pl).length (flat (itemsG pl))) => aggs_among (itemsG pl) A' (itemsG pl).length c' B' W h hP.hT)
  have HP := Lib.hid hp
  have hm := hP.hm
  obtain ⟨cc, rfl⟩ : ∃ cc, c = cc + 2 := ⟨c - 2, by omega⟩
  have HM := Lib.hid (items_may hP)
  have HSZ := Lib.hid hsz
  have HT0 := Lib.hid (fun W (h : Pow10 W) => value_AsText a0.val h1 W h)
  have hbz := asTxt_size a0.val h1 hs0
  have c1 := hc0 1 _ rfl
  have c2 := hc0 2 _ rfl
  have c3 := hc0 3 _ rfl
  have c4 := hc0 4 _ rfl
  have c5 := hc0 5 _ rfl
  have hb : b < w.heap.size := World.block_lt_of_cell? w _ c1
  have hb1 : b < w.heap.size + 1 := by omega
  simp only [Nat.add_zero] at c1 c2 c3 c4 c5
  unfold joinG
  obtain ⟨us, hL⟩ : ∃ us, itemsG pl = us := ⟨_, rfl⟩
  rw [hL] at HI HA HM HSZ hT7
  rw [hL]
  obtain ⟨ls, hls⟩ : ∃ ls, (amongG us).1 = ls := ⟨_, rfl⟩
  obtain ⟨f, hf0⟩ : ∃ f, (amongG us).2 = f := ⟨_, rfl⟩
  simp only [hls, hf0] at HA ⊢
  obtain ⟨sp, hsp⟩ : ∃ sp, (asTxtG a0.val).1 = sp := ⟨_, rfl⟩
  rw [hsp] at HT0 hbz ⊢
  clear hc0 hP h1 hL hls hf0 hsp hs0 hsz hp
  by_cases h4 : f.tag = 4
  · have h4' : (f.tag == 4) = true := by simp [h4]
    rw [if_pos h4]
    clear h4
    go_enter Tryz.func123, Tryz.ntmps123
    go_wp2_with (first | (go_at_call_of 35 (Value.agg #[Value.int .i64 (a0.val).tag, Value.int .i64 (a0.val).num, Value.string (a0.val).str, Value.bool (a0.val).is, Value.int .i64 (a0.val).code]); refine (HT0.out _ (HP.out.below (by (with_reducible repeat' (first | exact .refl _ _ | assumption | refine bmP ?_ ?_ | refine baP ?_ _ ?_ | refine .drew ?_ | refine .setCell ?_ ?_ _ | refine bdP ?_ _)) <;> go_size) (Nat.le_refl _))).mono ?_; rintro e w2 ⟨rfl, hb⟩; obtain ⟨m0, r0, rfl⟩ := more_of_below hb; clear hb) | (go_at_call 181; refine (HI.out _ (by (with_reducible repeat' (first | exact .refl _ _ | assumption | refine bmP ?_ ?_ | refine baP ?_ _ ?_ | refine .drew ?_ | refine .setCell ?_ ?_ _ | refine bdP ?_ _)) <;> go_size) _).mono ?_; rintro e w1 ⟨v, rfl, ho, hb⟩; obtain ⟨Ai, ci, rfl⟩ := own_sliceN ho; obtain ⟨l1, q1, rfl⟩ := more_of_below hb; clear hb; (try simp only [more_more, List.append_assoc] at ho); have HO := Lib.hid ho; clear ho) | (go_at_call 180; refine (HA.out _ _ _ _ (Reads.of_own HO.out)).mono ?_; rintro e w2 ⟨v, rfl, ho2, hb⟩; obtain ⟨Aj, cj, rfl⟩ := own_sliceN ho2; obtain ⟨l2, q2, rfl⟩ := more_of_below hb; clear hb; simp only [more_more, List.append_assoc] at ho2; have HO2 := Lib.hid ho2; clear ho2))
    all_goals go_returns
    all_goals exact ⟨rfl, (by (with_reducible repeat' (first | exact .refl _ _ | assumption | refine bmP ?_ ?_ | refine baP ?_ _ ?_ | refine .drew ?_ | refine .setCell ?_ ?_ _ | refine bdP ?_ _)) <;> go_size)⟩
  · have h4' : (f.tag == 4) = false := by simp [h4]
    rw [if_neg h4]
    obtain ⟨R, hR⟩ : ∃ R, joinGo tx sp (-(sp.size : Int)) us [] = R := ⟨_, rfl⟩
    rw [hR]
    have HRX := Lib.hid hR
    have s0 : wrap64 (-(sp.size : Int)) = -(sp.size : Int) := wrn _ (by omega)
    clear h4 hR
    go_enter Tryz.func123, Tryz.ntmps123
    obtain ⟨iS, hiS, hz0S, hz1S, hz2S⟩ := info_parts info_S
    go_wp2_with (first | (go_at_call_of 35 (Value.agg #[Value.int .i64 (a0.val).tag, Value.int .i64 (a0.val).num, Value.string (a0.val).str, Value.bool (a0.val).is, Value.int .i64 (a0.val).code]); refine (HT0.out _ (HP.out.below (by (with_reducible repeat' (first | exact .refl _ _ | assumption | refine bmP ?_ ?_ | refine baP ?_ _ ?_ | refine .drew ?_ | refine .setCell ?_ ?_ _ | refine bdP ?_ _)) <;> go_size) (Nat.le_refl _))).mono ?_; rintro e w2 ⟨rfl, hb⟩; obtain ⟨m0, r0, rfl⟩ := more_of_below hb; clear hb) | (go_at_call 181; refine (HI.out _ (by (with_reducible repeat' (first | exact .refl _ _ | assumption | refine bmP ?_ ?_ | refine baP ?_ _ ?_ | refine .drew ?_ | refine .setCell ?_ ?_ _ | refine bdP ?_ _)) <;> go_size) _).mono ?_; rintro e w1 ⟨v, rfl, ho, hb⟩; obtain ⟨Ai, ci, rfl⟩ := own_sliceN ho; obtain ⟨l1, q1, rfl⟩ := more_of_below hb; clear hb; (try simp only [more_more, List.append_assoc] at ho); have HO := Lib.hid ho; clear ho) | (go_at_call 180; refine (HA.out _ _ _ _ (Reads.of_own HO.out)).mono ?_; rintro e w2 ⟨v, rfl, ho2, hb⟩; obtain ⟨Aj, cj, rfl⟩ := own_sliceN ho2; obtain ⟨l2, q2, rfl⟩ := more_of_below hb; clear hb; simp only [more_more, List.append_assoc] at ho2; have HO2 := Lib.hid ho2; clear ho2))
    obtain ⟨WX, hWX⟩ : ∃ WX, WX = (more (w.alloc (.cells #[.int .i64 0, .int .i64 0, .string ⟨#[]⟩, .bool false, .int .i64 0] 29)) (m0 ++ (l1 ++ l2)) q2).alloc (.cells #[.int .i64 f.tag, .int .i64 f.num, .string f.str, .bool f.is, .int .i64 f.code] 29) := ⟨_, rfl⟩
    have HWX := Lib.hid hWX
    have HBX := Lib.hid (show Below (w.alloc (.cells #[.int .i64 0, .int .i64 0, .string ⟨#[]⟩, .bool false, .int .i64 0] 29)).heap.size (w.alloc (.cells #[.int .i64 0, .int .i64 0, .string ⟨#[]⟩, .bool false, .int .i64 0] 29)) WX by rw [hWX]; exact (by (with_reducible repeat' (first | exact .refl _ _ | assumption | refine bmP ?_ ?_ | refine baP ?_ _ ?_ | refine .drew ?_ | refine .setCell ?_ ?_ _ | refine bdP ?_ _)) <;> go_size))
    have hbl : Below (more (w.alloc (.cells #[.int .i64 0, .int .i64 0, .string ⟨#[]⟩, .bool false, .int .i64 0] 29)) (m0 ++ l1) q1).heap.size (more (w.alloc (.cells #[.int .i64 0, .int .i64 0, .string ⟨#[]⟩, .bool false, .int .i64 0] 29)) (m0 ++ l1) q1) WX := by
      have h1 : more (w.alloc (.cells #[.int .i64 0, .int .i64 0, .string ⟨#[]⟩, .bool false, .int .i64 0] 29)) (m0 ++ (l1 ++ l2)) q2 = more (more (w.alloc (.cells #[.int .i64 0, .int .i64 0, .string ⟨#[]⟩, .bool false, .int .i64 0] 29)) (m0 ++ l1) q1) l2 q2 := by rw [more_more, List.append_assoc]
      rw [hWX, h1]
      exact baP (below_more (Nat.le_refl _)) _ (by simp only [more_size]; exact Nat.le_add_right _ _)
    have HRD := Lib.hid (show Reads WX WX.heap.size 5 Ai us.length (flat us) from ((Reads.of_own HO.out).below hbl).lift hbl.size)
    clear hbl
    clear HO hWX HO2
    go_loopw [41, 10, 11] (fun t v m wr => ∃ j : Nat, ∃ k : Int, ∃ ss : List ByteArray, j ≤ us.length ∧ t = .int .i64 j ∧ m = .int .i64 k ∧ GathRel WX wr 9 1 v ss.length (ss.map Value.string) ∧ ss.length ≤ j ∧ (-1048576 ≤ k ∧ k ≤ 1048576) ∧ (∀ x ∈ ss, x.size ≤ 1048576) ∧ joinGo tx sp k (us.drop j) ss = R) (fun t _ _ _ => us.length - (intOf t).toNat)
    case atStart => exact ⟨0, _, [], Nat.zero_le _, rfl, rfl, ⟨by rw [HWX.out]; exact Below.refl _ _, World.ownsRow_nil _ _ _ _⟩, Nat.le_refl _, ⟨by omega, by omega⟩, (fun x hx => by simp at hx), HRX.out⟩
    case round =>
      obtain ⟨j, k, ss, hj, rfl, rfl, hG, hsl, ⟨hk1, hk2⟩, hss, hgo⟩ := hrel
      have hb1x := HBX.out.trans (hG.1.mono HBX.out.size)
      have hb2 : Below w.heap.size w wr := (show Below w.heap.size w (w.alloc (.cells #[.int .i64 0, .int .i64 0, .string ⟨#[]⟩, .bool false, .int .i64 0] 29)) from (by (with_reducible repeat' (first | exact .refl _ _ | assumption | refine bmP ?_ ?_ | refine baP ?_ _ ?_ | refine .drew ?_ | refine .setCell ?_ ?_ _ | refine bdP ?_ _)) <;> go_size)).trans (hb1x.mono (by simp))
      have HG := Lib.hid hG
      have HB1 := Lib.hid hb1x
      have HB2 := Lib.hid hb2
      have HSS := Lib.hid hss
      have hb2s := hb2.size
      clear hG hb1x hb2 hss
      by_cases hlt : j < us.length
      · obtain ⟨x, hx⟩ : ∃ x, us[j]? = some x := ⟨_, List.getElem?_eq_getElem hlt⟩
        obtain ⟨bk, ofx, rfl, _, hc⟩ := HRD.out.2 (by omega)
        have hcell : ∀ i u, x.cells[i]? = some u → wr.cell? ⟨bk, ofx + (j * 5 + i), none⟩ = some u := fun i u hu => cell_below (hc _ u (flat_at us j x hx i u hu)) HG.out.1
        have e0 := hcell 0 _ rfl
        have e1 := hcell 1 _ rfl
        have e2 := hcell 2 _ rfl
        have e3 := hcell 3 _ rfl
        have e4 := hcell 4 _ rfl
        simp only [← Nat.add_assoc, Nat.add_zero] at e0 e1 e2 e3 e4
        have hbr : bk < wr.heap.size := World.block_lt_of_cell? wr _ e0
        obtain ⟨hxm, hx64⟩ := HM.out x (List.mem_of_getElem? hx)
        have hxz := HSZ.out x (List.mem_of_getElem? hx)
        rw [drop_at hx] at hgo
        unfold joinGo at hgo
        have HTX := Lib.hid (fun W (h : Pow10 W) => value_AsText x hx64 W h)
        have hsz := asTxt_size x hx64 hxz
        obtain ⟨tt, htt⟩ : ∃ tt, (asTxtG x).1 = tt := ⟨_, rfl⟩
        rw [htt] at HTX hsz hgo
        clear hcell hx hxm hx64 hxz htt
        by_cases ht0 : x.tag = 0
        · have ht0' : (x.tag == 0) = true := by simp [ht0]
          rw [if_pos ht0] at hgo
          have HGO := Lib.hid hgo
          clear ht0 hgo hc
          go_wp2
          go_roundw
          case rel => exact ⟨j + 1, _, _, by omega, by go_num, rfl, ⟨HG.out.1.trans ((show Below wr.heap.size wr _ from (by (with_reducible repeat' (first | exact .refl _ _ | assumption | refine bmP ?_ ?_ | refine baP ?_ _ ?_ | refine .drew ?_ | refine .setCell ?_ ?_ _ | refine bdP ?_ _)) <;> go_size)).mono HG.out.1.size), own_below HG.out.2 (by (with_reducible repeat' (first | exact .refl _ _ | assumption | refine bmP ?_ ?_ | refine baP ?_ _ ?_ | refine .drew ?_ | refine .setCell ?_ ?_ _ | refine bdP ?_ _)) <;> go_size)⟩, by omega, ⟨hk1, hk2⟩, HSS.out, HGO.out⟩
          case measure => simp [intOf]; omega
        · have ht0' : (x.tag == 0) = false := by simp [ht0]
          rw [if_neg ht0] at hgo
          obtain ⟨k', hk'⟩ : ∃ k' : Int, k + ((sp.size : Int) + (tt.size : Int)) = k' := ⟨_, rfl⟩
          rw [hk'] at hgo
          obtain ⟨z1, hz1⟩ : ∃ z1 : Int, (sp.size : Int) + (tt.size : Int) = z1 := ⟨_, rfl⟩
          have hz2 : 0 ≤ z1 ∧ z1 ≤ 2097152 := by omega
          have hkb0 : k' = k + z1 := by rw [← hz1]; exact hk'.symm
          have HS1 := Lib.hid (show wrap64 ((sp.size : Int) + (tt.size : Int)) = z1 by rw [hz1]; exact wr64 (by omega) (by omega))
          have HS2 := Lib.hid (show wrap64 (k + z1) = k' by rw [hkb0]; exact wr64 (by omega) (by omega))
          have HK3 := Lib.hid hk'
          clear hk' hz1
          by_cases hg : tx < k'
          · have hg' : (decide (tx < k')) = true := decide_eq_true hg
            rw [if_pos hg] at hgo
            have HRR := Lib.hid hgo.symm
            have hg2 : (decide (tx < k + ((sp.size : Int) + (tt.size : Int)))) = true := decide_eq_true (by rw [HK3.out]; exact hg)
            obtain ⟨l0, q0, hwe⟩ := more_of_below HB1.out
            subst hwe
            clear ht0 hg hgo hc hkb0 hz2
            have s1 := HS1.out
            have s2 := HS2.out
            simp only [more_size, World.size_alloc] at hbr hb2s
            go_wp2_with (first | (go_at_call 35; refine (HTX.out _ (HP.out.below (by (with_reducible repeat' (first | exact .refl _ _ | assumption | refine bmP ?_ ?_ | refine baP ?_ _ ?_ | refine .drew ?_ | refine .setCell ?_ ?_ _ | refine bdP ?_ _)) <;> go_size) (Nat.le_refl _))).mono ?_; rintro e w2 ⟨rfl, hb⟩; obtain ⟨m4, r4, rfl⟩ := more_of_below hb; clear hb) | (go_at_call 27; refine (value_Err _ _).mono ?_; rintro e w3 ⟨rfl, hb⟩; obtain ⟨l3, q3, rfl⟩ := more_of_below hb; clear hb))
            all_goals go_returns
            all_goals exact ⟨by rw [HRR.out], (by (with_reducible repeat' (first | exact .refl _ _ | assumption | refine bmP ?_ ?_ | refine baP ?_ _ ?_ | refine .drew ?_ | refine .setCell ?_ ?_ _ | refine bdP ?_ _)) <;> go_size)⟩
          · have hg' : (decide (tx < k')) = false := decide_eq_false hg
            rw [if_neg hg] at hgo
            have HGO := Lib.hid hgo
            have hkb : -1048576 ≤ k' ∧ k' ≤ 1048576 := by omega
            have HSZT := Lib.hid hsz
            clear ht0 hg hgo hc hsz hkb0 hz2
            have s1 := HS1.out
            have s2 := HS2.out
            go_wp2_with (first | (go_at_call 35; refine (HTX.out _ (HP.out.below (HB2.out.trans ((show Below wr.heap.size wr _ from (by (with_reducible repeat' (first | exact .refl _ _ | assumption | refine bmP ?_ ?_ | refine baP ?_ _ ?_ | refine .drew ?_ | refine .setCell ?_ ?_ _ | refine bdP ?_ _)) <;> go_size)).mono HB2.out.size)) (Nat.le_refl _))).mono ?_; rintro e w2 ⟨rfl, hb⟩; obtain ⟨m4, r4, rfl⟩ := more_of_below hb; clear hb) | (at_builtin; refine wpList_append_own _ rfl _ _ 105 rfl WX.heap.size 9 iS _ 1 16 Tryz.underlying105 hiS hz0S hz1S hz2S rfl (by decide) _ _ _ rfl (own_below HG.out.2 (by (with_reducible repeat' (first | exact .refl _ _ | assumption | refine bmP ?_ ?_ | refine baP ?_ _ ?_ | refine .drew ?_ | refine .setCell ?_ ?_ _ | refine bdP ?_ _)) <;> go_size)) _ 1 1 [.string tt] rfl rfl ?_ ?_ ?_ ?_ ?_ ?_))
            · first | exact fun i u hu => fresh_cells (by simp) i u hu | exact fun i u hu => hu
            · intro u hu; simp only [List.mem_cons, List.not_mem_nil, or_false] at hu; subst hu; rfl
            · clear s1 s2; simp only [maxLen]; omega
            · clear s1 s2; omega
            · clear s1 s2
              have h1 := HG.out.1.size
              simp at h1 ⊢
              omega
            · intro v' w3 hown' hgrow _
              have R := GathRel.step HG.out (by (with_reducible repeat' (first | exact .refl _ _ | assumption | refine bmP ?_ ?_ | refine baP ?_ _ ?_ | refine .drew ?_ | refine .setCell ?_ ?_ _ | refine bdP ?_ _)) <;> go_size) (show w3.ownsRow WX.heap.size 9 1 v' (ss.length + 1) (ss.map Value.string ++ [.string tt]) from by simpa using hown') hgrow
              rw [show ss.map Value.string ++ [.string tt] = (ss ++ [tt]).map Value.string by simp, show ss.length + 1 = (ss ++ [tt]).length by simp] at R
              have HG' := Lib.hid R
              clear s1 s2 hown' hgrow R HG e0 e1 e2 e3 e4
              go_wp2
              go_roundw
              case rel => exact ⟨j + 1, _, _, by omega, by go_num, rfl, HG'.out, by simp; omega, hkb, fun y hy => by (rcases List.mem_append.1 hy with hy | hy; (exact HSS.out y hy); (simp only [List.mem_cons, List.not_mem_nil, or_false] at hy; subst hy; exact HSZT.out)), HGO.out⟩
              case measure => simp [intOf]; omega
      · obtain rfl : j = us.length := by omega
        rw [List.drop_of_length_le (Nat.le_refl _)] at hgo
        have HRR := Lib.hid (show R = txtG (joinS sp ss) from hgo.symm)
        have HJ := Lib.hid (fun W (hb : Below wr.heap.size wr W) v (ho : wr.ownsRow WX.heap.size 9 1 v ss.length (ss.map Value.string)) => join_any ss sp v _ W (own_below ho hb) (by omega) HSS.out hbz)
        obtain ⟨Aj2, cj2, e3⟩ := own_sliceN HG.out.2
        subst e3
        have HJ2 := Lib.hid (fun W (hb : Below wr.heap.size wr W) => HJ.out W hb _ HG.out.2)
        obtain ⟨l0, q0, hwe⟩ := more_of_below HB1.out
        subst hwe
        obtain ⟨js, hjs⟩ : ∃ js, joinS sp ss = js := ⟨_, rfl⟩
        rw [hjs] at HRR HJ2
        obtain ⟨nn, hnn⟩ : ∃ nn, ss.length = nn := ⟨_, rfl⟩
        rw [hnn] at HJ2 ⊢
        clear hgo hjs hnn HJ
        go_wp2_with (first | (go_at_call 166; refine (HJ2.out _ (by (with_reducible repeat' (first | exact .refl _ _ | assumption | refine bmP ?_ ?_ | refine baP ?_ _ ?_ | refine .drew ?_ | refine .setCell ?_ ?_ _ | refine bdP ?_ _)) <;> go_size)).mono ?_; rintro e w2 ⟨rfl, hb⟩; obtain ⟨m4, r4, rfl⟩ := more_of_below hb; clear hb) | (go_at_call 137; refine (value_Txt _ _).mono ?_; rintro e w2 ⟨rfl, hb⟩; obtain ⟨m5, r5, rfl⟩ := more_of_below hb; clear hb))
        all_goals go_returns
        all_goals exact ⟨by rw [HRR.out], (by (with_reducible repeat' (first | exact .refl _ _ | assumption | refine bmP ?_ ?_ | refine baP ?_ _ ?_ | refine .drew ?_ | refine .setCell ?_ ?_ _ | refine bdP ?_ _)) <;> go_size)⟩
end Go.Proofs.YtegbhdeaicgpkaaGreatDoor
