/-
  Parts of a proof: AggG, AggH, AggI.
-/
import Derived.Test.YtegbhdeaicgpkaaGreatDoorJ36
import Derived.Test.YtegbhdeaicgpkaaGreatDoorJ37
set_option linter.all false
namespace Go.Proofs.YtegbhdeaicgpkaaGreatDoor
open Go Go.RowKit
def elV (v : V) : Value := (Value.agg #[Value.int .i64 v.tag, Value.int .i64 v.num, Value.string v.str, Value.bool v.is, Value.int .i64 v.code])
def plE (a : Arg) (e : En) : Int × Int := (e.row - a.top, e.col - a.left)
def heldP (a : Arg) (es : List En) : List ((Int × Int) × Value) := es.map fun e => (plE a e, elV e.v)
def SmallE (e : En) : Prop := (-100000 ≤ e.row ∧ e.row ≤ 100000) ∧ (-100000 ≤ e.col ∧ e.col ≤ 100000)
def argO (a : Arg) (A : Option Addr) : Obj := .cells #[.bool a.many, .int .i64 a.val.tag, .int .i64 a.val.num, .string a.val.str, .bool a.val.is, .int .i64 a.val.code, .int .i64 a.top, .int .i64 a.left, .int .i64 a.bottom, .int .i64 a.right, .slice A a.n a.c] 42
theorem PlMap.at0 {w w' : World} {b : Nat} {es : List ((Int × Int) × Value)} (h : PlMap Tryz.prog 232 w b es) (hb : Below w.heap.size w w') : PlMap Tryz.prog 232 w' b es := h.below hb h.lt
set_option maxRecDepth 100000 in
set_option maxHeartbeats 4000000 in
theorem aggs_held (a : Arg) (es : List En) (w : World) (hE : EntsAt w a es) (hs : SmallA a) (hes : ∀ e ∈ es, SmallE e) (hn : a.n ≤ 1000000000000) :
    Calls Tryz.prog 191 #[a.agg] w fun e w' => ∃ b, e = .returned (.map (some b)) ∧ PlMap Tryz.prog 232 w' b (heldP a es) ∧ w.heap.size ≤ b ∧ Below w.heap.size w w' := by
  obtain ⟨hel, her⟩ := hE
  obtain ⟨Ae, hAe⟩ : ∃ Ae, a.ents = Ae := ⟨_, rfl⟩
  rw [hAe] at her
  have HER := Lib.hid her
  have HES := Lib.hid hes
  have HSA := Lib.hid hs
  have hmk := @run_makeMap Tryz.prog
  clear her hes hs
  unfold Arg.agg
  rw [hAe]
  clear hAe
  go_enter Tryz.func191, Tryz.ntmps191
  go_wp2
  go_loopw [10] (fun t wr => ∃ j : Nat, j ≤ a.n ∧ t = .int .i64 j ∧ PlMap Tryz.prog 232 wr (w.heap.size + 1) (heldP a (es.take j)) ∧ Below (w.alloc (argO a Ae)).heap.size (w.alloc (argO a Ae)) wr) (fun t _ => a.n - (intOf t).toNat)
  case atStart =>
    refine ⟨0, Nat.zero_le _, rfl, ?_, baP (Below.refl _ _) _ (Nat.le_refl _)⟩
    have h := PlMap.made Tryz.prog 232 (w.alloc (argO a Ae))
    rw [World.size_alloc] at h
    exact h
  case round =>
    obtain ⟨j, hj, rfl, hM, hB⟩ := hrel
    have hb2 : Below w.heap.size w wr := (show Below w.heap.size w (w.alloc (argO a Ae)) from (by (with_reducible repeat' (first | exact .refl _ _ | assumption | refine bmP ?_ ?_ | refine baP ?_ _ ?_ | refine .drew ?_ | refine .setCell ?_ ?_ _ | refine bdP ?_ _)) <;> go_size)).trans (hB.mono (by simp))
    have pc : ∀ i u, (#[Value.bool a.many, .int .i64 a.val.tag, .int .i64 a.val.num, .string a.val.str, .bool a.val.is, .int .i64 a.val.code, .int .i64 a.top, .int .i64 a.left, .int .i64 a.bottom, .int .i64 a.right, .slice Ae a.n a.c] : Array Value).toList[i]? = some u → wr.cell? ⟨w.heap.size, i, none⟩ = some u := fun i u hu => ((AtB.new (w := w) (t := 42) rfl).below hB) i u hu
    have p6 := pc 6 _ rfl
    have p7 := pc 7 _ rfl
    have hbl := hM.lt
    have hbw : w.heap.size < wr.heap.size := by omega
    have HM := Lib.hid hM
    have HB := Lib.hid hB
    have HB2 := Lib.hid hb2
    clear pc hM hB hb2
    by_cases hlt : j < a.n
    · obtain ⟨x, hx⟩ : ∃ x, es[j]? = some x := ⟨_, List.getElem?_eq_getElem (show j < es.length by omega)⟩
      obtain ⟨bk, off, rfl, _, hc⟩ := HER.out.2 (by omega)
      have hcell : ∀ i u, x.cells[i]? = some u → wr.cell? ⟨bk, off + (j * 7 + i), none⟩ = some u := fun i u hu => by
        have h1 := hc _ u (flatC_at En.cells 7 (fun _ => rfl) es j x hx i u hu)
        exact (HB2.out.cell (p := ⟨bk, _, none⟩) (World.block_lt_of_cell? w _ h1)).trans h1
      have e0 := hcell 0 _ rfl
      have e1 := hcell 1 _ rfl
      have e2 := hcell 2 _ rfl
      have e3 := hcell 3 _ rfl
      have e4 := hcell 4 _ rfl
      have e5 := hcell 5 _ rfl
      have e6 := hcell 6 _ rfl
      simp only [← Nat.add_assoc, Nat.add_zero] at e0 e1 e2 e3 e4 e5 e6
      have hbr : bk < wr.heap.size := World.block_lt_of_cell? wr _ e0
      have hsx := HES.out x (List.mem_of_getElem? hx)
      have hsa := HSA.out
      unfold SmallE at hsx
      unfold SmallA at hsa
      have s1 : wrap64 (x.row - a.top) = x.row - a.top := wr64 (by omega) (by omega)
      have s2 : wrap64 (x.col - a.left) = x.col - a.left := wr64 (by omega) (by omega)
      have HOK := Lib.hid (show Ok64 (plE a x) from ⟨⟨by unfold plE; simp only; omega, by unfold plE; simp only; omega⟩, ⟨by unfold plE; simp only; omega, by unfold plE; simp only; omega⟩⟩)
      have HX := Lib.hid (show heldP a (es.take j) ++ [(plE a x, elV x.v)] = heldP a (es.take (j + 1)) by rw [take_one hx]; simp [heldP])
      have hll : (heldP a (es.take j)).length ≤ j := by unfold heldP; rw [List.length_map, List.length_take]; omega
      clear hcell hc hx hsx hsa
      go_wp2_with (first | (refine wpList_updateP _ rfl 229 _ _ _ rfl 232 29 place_key Tryz.underlying229 (w.heap.size + 1) _ rfl (HM.out.at0 (by (with_reducible repeat' (first | exact .refl _ _ | assumption | refine bmP ?_ ?_ | refine baP ?_ _ ?_ | refine .drew ?_ | refine .setCell ?_ ?_ _ | refine bdP ?_ _)) <;> go_size)) ?_ (plE a x) rfl HOK.out (elV x.v) rfl ?_))
      · simp only [maxLen]; omega
      · intro w2 hM2 hg
        rw [HX.out] at hM2
        have HM2 := Lib.hid hM2
        have HB3 := Lib.hid ((HB.out.trans ((show Below wr.heap.size wr _ from (by (with_reducible repeat' (first | exact .refl _ _ | assumption | refine bmP ?_ ?_ | refine baP ?_ _ ?_ | refine .drew ?_ | refine .setCell ?_ ?_ _ | refine bdP ?_ _)) <;> go_size)).mono HB.out.size)).grown hg (by have := HB.out.size; simp at this ⊢; omega) (fun k e => by cases e; simp))
        clear hM2 hg HM e0 e1 e2 e3 e4 e5 e6
        go_wp2
        go_roundw
        case rel => exact ⟨j + 1, by omega, by go_num, HM2.out, HB3.out⟩
        case measure => simp [intOf]; omega
    · obtain rfl : j = a.n := by omega
      have hM := HM.out
      rw [List.take_of_length_le (by omega)] at hM
      have HM2 := Lib.hid hM
      clear hM HM
      go_wp2
      go_returns
      exact ⟨_, rfl, HM2.out, by omega, HB2.out⟩
end Go.Proofs.YtegbhdeaicgpkaaGreatDoor
namespace Go.Proofs.YtegbhdeaicgpkaaGreatDoor
open Go Go.RowKit
def countifG (a : Arg) (es : List En) (v : V) : V := numG (((if v.tag = 0 then rowsG a * colsG a - a.n else 0) + (es.countP fun e => eqB e.v v : Nat)) * 10000)
set_option maxRecDepth 100000 in
theorem aggs_ROWS (a : Arg) (b off c : Nat) (tx : Int) (w : World) (hc : ∀ i u, a.cells[i]? = some u → w.cell? ⟨b, off + i, none⟩ = some u) (hs : SmallA a) :
    Calls Tryz.prog 124 #[.slice (some ⟨b, off, none⟩) 1 c, .int .i64 tx] w fun e w' => e = .returned (Value.agg #[Value.int .i64 (numG (rowsG a * 10000)).tag, Value.int .i64 (numG (rowsG a * 10000)).num, Value.string (numG (rowsG a * 10000)).str, Value.bool (numG (rowsG a * 10000)).is, Value.int .i64 (numG (rowsG a * 10000)).code]) ∧ Below w.heap.size w w' := by
  have HR := Lib.hid (aggs_rows a hs)
  have HW := Lib.hid (aggs_whole (rowsG a) (by unfold rowsG; unfold SmallA at hs; omega) (by unfold rowsG; unfold SmallA at hs; omega))
  have c0 := hc 0 _ rfl
  have c1 := hc 1 _ rfl
  have c2 := hc 2 _ rfl
  have c3 := hc 3 _ rfl
  have c4 := hc 4 _ rfl
  have c5 := hc 5 _ rfl
  have c6 := hc 6 _ rfl
  have c7 := hc 7 _ rfl
  have c8 := hc 8 _ rfl
  have c9 := hc 9 _ rfl
  have c10 := hc 10 _ rfl
  have hb : b < w.heap.size := World.block_lt_of_cell? w _ c0
  rw [Nat.add_zero] at c0
  clear hc hs
  go_enter Tryz.func124, Tryz.ntmps124
  go_wp2_with (first | (go_at_call 126; refine (HR.out _).mono ?_; rintro e w3 ⟨rfl, hb⟩; obtain ⟨l3, q3, rfl⟩ := more_of_below hb; clear hb) | (go_at_call 125; refine (HW.out _).mono ?_; rintro e w3 ⟨rfl, hb⟩; obtain ⟨l4, q4, rfl⟩ := more_of_below hb; clear hb))
  all_goals go_returns
  all_goals exact ⟨rfl, (by (with_reducible repeat' (first | exact .refl _ _ | assumption | refine bmP ?_ ?_ | refine baP ?_ _ ?_ | refine .drew ?_ | refine .setCell ?_ ?_ _ | refine bdP ?_ _)) <;> go_size)⟩
set_option maxRecDepth 100000 in
theorem aggs_COLS (a : Arg) (b off c : Nat) (tx : Int) (w : World) (hc : ∀ i u, a.cells[i]? = some u → w.cell? ⟨b, off + i, none⟩ = some u) (hs : SmallA a) :
    Calls Tryz.prog 127 #[.slice (some ⟨b, off, none⟩) 1 c, .int .i64 tx] w fun e w' => e = .returned (Value.agg #[Value.int .i64 (numG (colsG a * 10000)).tag, Value.int .i64 (numG (colsG a * 10000)).num, Value.string (numG (colsG a * 10000)).str, Value.bool (numG (colsG a * 10000)).is, Value.int .i64 (numG (colsG a * 10000)).code]) ∧ Below w.heap.size w w' := by
  have HR := Lib.hid (aggs_cols a hs)
  have HW := Lib.hid (aggs_whole (colsG a) (by unfold colsG; unfold SmallA at hs; omega) (by unfold colsG; unfold SmallA at hs; omega))
  have c0 := hc 0 _ rfl
  have c1 := hc 1 _ rfl
  have c2 := hc 2 _ rfl
  have c3 := hc 3 _ rfl
  have c4 := hc 4 _ rfl
  have c5 := hc 5 _ rfl
  have c6 := hc 6 _ rfl
  have c7 := hc 7 _ rfl
  have c8 := hc 8 _ rfl
  have c9 := hc 9 _ rfl
  have c10 := hc 10 _ rfl
  have hb : b < w.heap.size := World.block_lt_of_cell? w _ c0
  rw [Nat.add_zero] at c0
  clear hc hs
  go_enter Tryz.func127, Tryz.ntmps127
  go_wp2_with (first | (go_at_call 128; refine (HR.out _).mono ?_; rintro e w3 ⟨rfl, hb⟩; obtain ⟨l3, q3, rfl⟩ := more_of_below hb; clear hb) | (go_at_call 125; refine (HW.out _).mono ?_; rintro e w3 ⟨rfl, hb⟩; obtain ⟨l4, q4, rfl⟩ := more_of_below hb; clear hb))
  all_goals go_returns
  all_goals exact ⟨rfl, (by (with_reducible repeat' (first | exact .refl _ _ | assumption | refine bmP ?_ ?_ | refine baP ?_ _ ?_ | refine .drew ?_ | refine .setCell ?_ ?_ _ | refine bdP ?_ _)) <;> go_size)⟩
set_option maxRecDepth 100000 in
set_option maxHeartbeats 4000000 in
theorem aggs_countif (a : Arg) (es : List En) (v : V) (w : World) (hE : EntsAt w a es) (hs : SmallA a) (hn : a.n ≤ 1000000000) :
    Calls Tryz.prog 117 #[a.agg, (Value.agg #[Value.int .i64 v.tag, Value.int .i64 v.num, Value.string v.str, Value.bool v.is, Value.int .i64 v.code])] w fun e w' => e = .returned (Value.agg #[Value.int .i64 (countifG a es v).tag, Value.int .i64 (countifG a es v).num, Value.string (countifG a es v).str, Value.bool (countifG a es v).is, Value.int .i64 (countifG a es v).code]) ∧ Below w.heap.size w w' := by
  obtain ⟨hel, her⟩ := hE
  have hrc : -50000000000 ≤ rowsG a * colsG a ∧ rowsG a * colsG a ≤ 50000000000 := by
    have h1 : -200001 ≤ rowsG a ∧ rowsG a ≤ 200001 := by unfold rowsG; unfold SmallA at hs; omega
    have h2 : -200001 ≤ colsG a ∧ colsG a ≤ 200001 := by unfold colsG; unfold SmallA at hs; omega
    have h3 : (rowsG a * colsG a).natAbs ≤ 200001 * 200001 := by rw [Int.natAbs_mul]; exact Nat.mul_le_mul (by omega) (by omega)
    omega
  have HRW := Lib.hid (aggs_rows a hs)
  have HCL := Lib.hid (aggs_cols a hs)
  unfold countifG
  obtain ⟨ra, hra⟩ : ∃ ra, rowsG a = ra := ⟨_, rfl⟩
  obtain ⟨ca, hca⟩ : ∃ ca, colsG a = ca := ⟨_, rfl⟩
  rw [hra] at HRW
  rw [hca] at HCL
  rw [hra, hca] at hrc ⊢
  obtain ⟨z, hz⟩ : ∃ z, (if v.tag = 0 then ra * ca - a.n else 0) = z := ⟨_, rfl⟩
  rw [hz]
  have HZ := Lib.hid hz
  have HRC := Lib.hid hrc
  clear hra hca hs hz hrc
  obtain ⟨Ae, hAe⟩ : ∃ Ae, a.ents = Ae := ⟨_, rfl⟩
  obtain ⟨n, hnn⟩ : ∃ n, a.n = n := ⟨_, rfl⟩
  rw [hAe, hnn] at her
  rw [hnn] at hel hn
  have HER := Lib.hid her
  have HZ := Lib.hid (show (if v.tag = 0 then ra * ca - (n : Int) else 0) = z by rw [← hnn]; exact HZ.out)
  unfold Arg.agg at *
  rw [hAe, hnn] at HRW HCL ⊢
  clear her hAe hnn
  have hq := fun (x : V) => eqlV x.tag x.num x.str x.is x.code v.tag v.num v.str v.is v.code
  have HQ := Lib.hid hq
  clear hq
  go_enter Tryz.func117, Tryz.ntmps117
  by_cases hv : v.tag = 0
  · have hv' : (v.tag == 0) = true := by simp [hv]
    have hz : ra * ca - (n : Int) = z := by have := HZ.out; rw [if_pos hv] at this; exact this
    have w1 : wrap64 (ra * ca) = ra * ca := wr64 (by have := HRC.out; omega) (by have := HRC.out; omega)
    have w2 : wrap64 (ra * ca - (n : Int)) = z := by rw [hz]; exact wr64 (by have := HRC.out; omega) (by have := HRC.out; omega)
    have hzb : -60000000000 ≤ z ∧ z ≤ 60000000000 := by have := HRC.out; omega
    clear hv hz
    go_wp2
    all_goals (refine wp_region_quiet_more (by kernel_rfl) (by kernel_rfl) ?_; (repeat (go_big_quiet_step (first | (go_at_call 126; exact Calls.more_of (HRW.out _)) | (go_at_call 128; exact Calls.more_of (HCL.out _))))); refine wpQuiet_nil ?_; intro _ hw1; obtain ⟨⟨lq, nq⟩, hw2⟩ := hw1; subst hw2)
    all_goals go_wp2
    obtain ⟨W2, hW2⟩ : ∃ W2, W2 = ((w.alloc (.cells #[.bool a.many, .int .i64 a.val.tag, .int .i64 a.val.num, .string a.val.str, .bool a.val.is, .int .i64 a.val.code, .int .i64 a.top, .int .i64 a.left, .int .i64 a.bottom, .int .i64 a.right, .slice Ae n a.c] 42)).alloc (.cells #[.int .i64 v.tag, .int .i64 v.num, .string v.str, .bool v.is, .int .i64 v.code] 29)).alloc (.cells #[.int .i64 0, .int .i64 0, .string ⟨#[]⟩, .bool false, .int .i64 0] 29) := ⟨_, rfl⟩
    have HW2 := Lib.hid hW2
    have HBW := Lib.hid (show Below w.heap.size w W2 by rw [hW2]; exact (by (with_reducible repeat' (first | exact .refl _ _ | assumption | refine bmP ?_ ?_ | refine baP ?_ _ ?_ | refine .drew ?_ | refine .setCell ?_ ?_ _ | refine bdP ?_ _)) <;> go_size))
    have HV := Lib.hid (show ∀ i u, v.cells[i]? = some u → W2.cell? ⟨w.heap.size + 1, i, none⟩ = some u from fun i u hu => by
      have h1 := (AtB.new (w := w.alloc (.cells #[.bool a.many, .int .i64 a.val.tag, .int .i64 a.val.num, .string a.val.str, .bool a.val.is, .int .i64 a.val.code, .int .i64 a.top, .int .i64 a.left, .int .i64 a.bottom, .int .i64 a.right, .slice Ae n a.c] 42)) (cs := #[.int .i64 v.tag, .int .i64 v.num, .string v.str, .bool v.is, .int .i64 v.code]) (t := 29) (p := w.heap.size + 1) (by simp)).allocI (.cells #[.int .i64 0, .int .i64 0, .string ⟨#[]⟩, .bool false, .int .i64 0] 29)
      rw [hW2]
      exact h1 i u hu)
    have hsz2 : W2.heap.size = w.heap.size + 3 := by rw [hW2]; simp
    clear hW2
    go_loopw [23, 5] (fun t m wr => ∃ j : Nat, j ≤ n ∧ t = .int .i64 j ∧ m = .int .i64 (z + ((es.take j).countP fun e => eqB e.v v : Nat)) ∧ Below W2.heap.size W2 wr) (fun t _ _ => n - (intOf t).toNat)
    case atStart => exact ⟨0, Nat.zero_le _, rfl, by rw [w2]; simp, by rw [HW2.out]; exact below_more (Nat.le_refl _)⟩
    case round =>
      obtain ⟨j, hj, rfl, rfl, hB⟩ := hrel
      have hws := hB.size
      have hb2 : Below w.heap.size w wr := HBW.out.trans (hB.mono HBW.out.size)
      have hv : ∀ i u, v.cells[i]? = some u → wr.cell? ⟨w.heap.size + 1, i, none⟩ = some u := fun i u hu => cell_below (HV.out i u hu) hB
      have v0 := hv 0 _ rfl
      have v1 := hv 1 _ rfl
      have v2 := hv 2 _ rfl
      have v3 := hv 3 _ rfl
      have v4 := hv 4 _ rfl
      have hvl : w.heap.size + 1 < wr.heap.size := by omega
      have hcj : ((es.take j).countP fun e => eqB e.v v) ≤ j := Nat.le_trans List.countP_le_length (by rw [List.length_take]; omega)
      have HB := Lib.hid hB
      have HB2 := Lib.hid hb2
      clear hv hB hb2
      by_cases hlt : j < n
      · obtain ⟨x, hx⟩ : ∃ x, es[j]? = some x := ⟨_, List.getElem?_eq_getElem (show j < es.length by omega)⟩
        obtain ⟨bk, off, rfl, _, hc⟩ := HER.out.2 (by omega)
        have hcell : ∀ i u, x.cells[i]? = some u → wr.cell? ⟨bk, off + (j * 7 + i), none⟩ = some u := fun i u hu => by
          have h1 := hc _ u (flatC_at En.cells 7 (fun _ => rfl) es j x hx i u hu)
          exact (HB2.out.cell (p := ⟨bk, _, none⟩) (World.block_lt_of_cell? w _ h1)).trans h1
        have e0 := hcell 0 _ rfl
        have e1 := hcell 1 _ rfl
        have e2 := hcell 2 _ rfl
        have e3 := hcell 3 _ rfl
        have e4 := hcell 4 _ rfl
        have e5 := hcell 5 _ rfl
        have e6 := hcell 6 _ rfl
        simp only [← Nat.add_assoc, Nat.add_zero] at e0 e1 e2 e3 e4 e5 e6
        have hbr : bk < wr.heap.size := World.block_lt_of_cell? wr _ e0
        have hcs : ((es.take (j + 1)).countP fun e => eqB e.v v) = ((es.take j).countP fun e => eqB e.v v) + (if eqB x.v v then 1 else 0) := by rw [take_one hx, List.countP_append]; simp [List.countP_cons]
        have hqx := HQ.out x.v
        obtain ⟨bz, hbz⟩ : ∃ bz, eqB x.v v = bz := ⟨_, rfl⟩
        rw [hbz] at hcs
        rw [show eqB ⟨x.v.tag, x.v.num, x.v.str, x.v.is, x.v.code⟩ ⟨v.tag, v.num, v.str, v.is, v.code⟩ = bz from hbz] at hqx
        obtain ⟨m, hm⟩ : ∃ m, ((es.take j).countP fun e => eqB e.v v) = m := ⟨_, rfl⟩
        rw [hm] at hcs hcj ⊢
        have HCS := Lib.hid hcs
        have w3 : wrap64 (z + (m : Int) + 1) = z + (m : Int) + 1 := wr64 (by omega) (by omega)
        clear hcell hc hx hcs hbz hm
        cases bz
        all_goals go_wp2
        all_goals go_roundw
        case rel => exact ⟨j + 1, by omega, by go_num, by rw [HCS.out]; simp, HB.out.trans ((show Below wr.heap.size wr _ from (by (with_reducible repeat' (first | exact .refl _ _ | assumption | refine bmP ?_ ?_ | refine baP ?_ _ ?_ | refine .drew ?_ | refine .setCell ?_ ?_ _ | refine bdP ?_ _)) <;> go_size)).mono HB.out.size)⟩
        case measure => simp [intOf]; omega
        case rel => exact ⟨j + 1, by omega, by go_num, by rw [HCS.out]; simp; omega, HB.out.trans ((show Below wr.heap.size wr _ from (by (with_reducible repeat' (first | exact .refl _ _ | assumption | refine bmP ?_ ?_ | refine baP ?_ _ ?_ | refine .drew ?_ | refine .setCell ?_ ?_ _ | refine bdP ?_ _)) <;> go_size)).mono HB.out.size)⟩
        case measure => simp [intOf]; omega
      · obtain rfl : j = n := by omega
        rw [List.take_of_length_le (by omega)] at hcj ⊢
        obtain ⟨m, hm⟩ : ∃ m, (es.countP fun e => eqB e.v v) = m := ⟨_, rfl⟩
        have HM := Lib.hid hm
        rw [hm] at hcj ⊢
        obtain ⟨l0, q0, hwe⟩ := more_of_below HB.out
        subst hwe
        have hW2 := HW2.out
        subst hW2
        clear hm v0 v1 v2 v3 v4
        go_wp2_with (first | (go_at_call 125; refine (aggs_whole _ (by omega) (by omega) _).mono ?_; rintro e w3 ⟨rfl, hb⟩; obtain ⟨l3, q3, rfl⟩ := more_of_below hb; clear hb))
        all_goals go_returns
        all_goals exact ⟨by rw [HM.out], (by (with_reducible repeat' (first | exact .refl _ _ | assumption | refine bmP ?_ ?_ | refine baP ?_ _ ?_ | refine .drew ?_ | refine .setCell ?_ ?_ _ | refine bdP ?_ _)) <;> go_size)⟩
  · have hv' : (v.tag == 0) = false := by simp [hv]
    have hz : 0 = z := by have := HZ.out; rw [if_neg hv] at this; exact this
    have hzb : -60000000000 ≤ z ∧ z ≤ 60000000000 := by omega
    have HZ0 := Lib.hid hz
    clear hv hz
    go_wp2
    obtain ⟨W2, hW2⟩ : ∃ W2, W2 = ((w.alloc (.cells #[.bool a.many, .int .i64 a.val.tag, .int .i64 a.val.num, .string a.val.str, .bool a.val.is, .int .i64 a.val.code, .int .i64 a.top, .int .i64 a.left, .int .i64 a.bottom, .int .i64 a.right, .slice Ae n a.c] 42)).alloc (.cells #[.int .i64 v.tag, .int .i64 v.num, .string v.str, .bool v.is, .int .i64 v.code] 29)).alloc (.cells #[.int .i64 0, .int .i64 0, .string ⟨#[]⟩, .bool false, .int .i64 0] 29) := ⟨_, rfl⟩
    have HW2 := Lib.hid hW2
    have HBW := Lib.hid (show Below w.heap.size w W2 by rw [hW2]; exact (by (with_reducible repeat' (first | exact .refl _ _ | assumption | refine bmP ?_ ?_ | refine baP ?_ _ ?_ | refine .drew ?_ | refine .setCell ?_ ?_ _ | refine bdP ?_ _)) <;> go_size))
    have HV := Lib.hid (show ∀ i u, v.cells[i]? = some u → W2.cell? ⟨w.heap.size + 1, i, none⟩ = some u from fun i u hu => by
      have h1 := (AtB.new (w := w.alloc (.cells #[.bool a.many, .int .i64 a.val.tag, .int .i64 a.val.num, .string a.val.str, .bool a.val.is, .int .i64 a.val.code, .int .i64 a.top, .int .i64 a.left, .int .i64 a.bottom, .int .i64 a.right, .slice Ae n a.c] 42)) (cs := #[.int .i64 v.tag, .int .i64 v.num, .string v.str, .bool v.is, .int .i64 v.code]) (t := 29) (p := w.heap.size + 1) (by simp)).allocI (.cells #[.int .i64 0, .int .i64 0, .string ⟨#[]⟩, .bool false, .int .i64 0] 29)
      rw [hW2]
      exact h1 i u hu)
    have hsz2 : W2.heap.size = w.heap.size + 3 := by rw [hW2]; simp
    clear hW2
    go_loopw [23, 5] (fun t m wr => ∃ j : Nat, j ≤ n ∧ t = .int .i64 j ∧ m = .int .i64 (z + ((es.take j).countP fun e => eqB e.v v : Nat)) ∧ Below W2.heap.size W2 wr) (fun t _ _ => n - (intOf t).toNat)
    case atStart => exact ⟨0, Nat.zero_le _, rfl, by rw [← HZ0.out]; rfl, by rw [HW2.out]; exact Below.refl _ _⟩
    case round =>
      obtain ⟨j, hj, rfl, rfl, hB⟩ := hrel
      have hws := hB.size
      have hb2 : Below w.heap.size w wr := HBW.out.trans (hB.mono HBW.out.size)
      have hv : ∀ i u, v.cells[i]? = some u → wr.cell? ⟨w.heap.size + 1, i, none⟩ = some u := fun i u hu => cell_below (HV.out i u hu) hB
      have v0 := hv 0 _ rfl
      have v1 := hv 1 _ rfl
      have v2 := hv 2 _ rfl
      have v3 := hv 3 _ rfl
      have v4 := hv 4 _ rfl
      have hvl : w.heap.size + 1 < wr.heap.size := by omega
      have hcj : ((es.take j).countP fun e => eqB e.v v) ≤ j := Nat.le_trans List.countP_le_length (by rw [List.length_take]; omega)
      have HB := Lib.hid hB
      have HB2 := Lib.hid hb2
      clear hv hB hb2
      by_cases hlt : j < n
      · obtain ⟨x, hx⟩ : ∃ x, es[j]? = some x := ⟨_, List.getElem?_eq_getElem (show j < es.length by omega)⟩
        obtain ⟨bk, off, rfl, _, hc⟩ := HER.out.2 (by omega)
        have hcell : ∀ i u, x.cells[i]? = some u → wr.cell? ⟨bk, off + (j * 7 + i), none⟩ = some u := fun i u hu => by
          have h1 := hc _ u (flatC_at En.cells 7 (fun _ => rfl) es j x hx i u hu)
          exact (HB2.out.cell (p := ⟨bk, _, none⟩) (World.block_lt_of_cell? w _ h1)).trans h1
        have e0 := hcell 0 _ rfl
        have e1 := hcell 1 _ rfl
        have e2 := hcell 2 _ rfl
        have e3 := hcell 3 _ rfl
        have e4 := hcell 4 _ rfl
        have e5 := hcell 5 _ rfl
        have e6 := hcell 6 _ rfl
        simp only [← Nat.add_assoc, Nat.add_zero] at e0 e1 e2 e3 e4 e5 e6
        have hbr : bk < wr.heap.size := World.block_lt_of_cell? wr _ e0
        have hcs : ((es.take (j + 1)).countP fun e => eqB e.v v) = ((es.take j).countP fun e => eqB e.v v) + (if eqB x.v v then 1 else 0) := by rw [take_one hx, List.countP_append]; simp [List.countP_cons]
        have hqx := HQ.out x.v
        obtain ⟨bz, hbz⟩ : ∃ bz, eqB x.v v = bz := ⟨_, rfl⟩
        rw [hbz] at hcs
        rw [show eqB ⟨x.v.tag, x.v.num, x.v.str, x.v.is, x.v.code⟩ ⟨v.tag, v.num, v.str, v.is, v.code⟩ = bz from hbz] at hqx
        obtain ⟨m, hm⟩ : ∃ m, ((es.take j).countP fun e => eqB e.v v) = m := ⟨_, rfl⟩
        rw [hm] at hcs hcj ⊢
        have HCS := Lib.hid hcs
        have w3 : wrap64 (z + (m : Int) + 1) = z + (m : Int) + 1 := wr64 (by omega) (by omega)
        clear hcell hc hx hcs hbz hm
        cases bz
        all_goals go_wp2
        all_goals go_roundw
        case rel => exact ⟨j + 1, by omega, by go_num, by rw [HCS.out]; simp, HB.out.trans ((show Below wr.heap.size wr _ from (by (with_reducible repeat' (first | exact .refl _ _ | assumption | refine bmP ?_ ?_ | refine baP ?_ _ ?_ | refine .drew ?_ | refine .setCell ?_ ?_ _ | refine bdP ?_ _)) <;> go_size)).mono HB.out.size)⟩
        case measure => simp [intOf]; omega
        case rel => exact ⟨j + 1, by omega, by go_num, by rw [HCS.out]; simp; omega, HB.out.trans ((show Below wr.heap.size wr _ from (by (with_reducible repeat' (first | exact .refl _ _ | assumption | refine bmP ?_ ?_ | refine baP ?_ _ ?_ | refine .drew ?_ | refine .setCell ?_ ?_ _ | refine bdP ?_ _)) <;> go_size)).mono HB.out.size)⟩
        case measure => simp [intOf]; omega
      · obtain rfl : j = n := by omega
        rw [List.take_of_length_le (by omega)] at hcj ⊢
        obtain ⟨m, hm⟩ : ∃ m, (es.countP fun e => eqB e.v v) = m := ⟨_, rfl⟩
        have HM := Lib.hid hm
        rw [hm] at hcj ⊢
        obtain ⟨l0, q0, hwe⟩ := more_of_below HB.out
        subst hwe
        have hW2 := HW2.out
        subst hW2
        clear hm v0 v1 v2 v3 v4
        go_wp2_with (first | (go_at_call 125; refine (aggs_whole _ (by omega) (by omega) _).mono ?_; rintro e w3 ⟨rfl, hb⟩; obtain ⟨l3, q3, rfl⟩ := more_of_below hb; clear hb))
        all_goals go_returns
        all_goals exact ⟨by rw [HM.out], (by (with_reducible repeat' (first | exact .refl _ _ | assumption | refine bmP ?_ ?_ | refine baP ?_ _ ?_ | refine .drew ?_ | refine .setCell ?_ ?_ _ | refine bdP ?_ _)) <;> go_size)⟩
end Go.Proofs.YtegbhdeaicgpkaaGreatDoor
namespace Go.Proofs.YtegbhdeaicgpkaaGreatDoor
open Go Go.RowKit
set_option maxRecDepth 100000 in
set_option maxHeartbeats 1000000 in
theorem aggs_BLANKS (a0 : Arg) (es : List En) (b off c : Nat) (tx : Int) (w : World) (hc0 : ∀ i u, a0.cells[i]? = some u → w.cell? ⟨b, off + 0 + i, none⟩ = some u) (hE : EntsAt w a0 es) (hs : SmallA a0) (hn : a0.n ≤ 1000000000) :
    Calls Tryz.prog 116 #[.slice (some ⟨b, off, none⟩) 1 c, .int .i64 tx] w fun e w' => e = .returned (Value.agg #[Value.int .i64 (countifG a0 es zeroG).tag, Value.int .i64 (countifG a0 es zeroG).num, Value.string (countifG a0 es zeroG).str, Value.bool (countifG a0 es zeroG).is, Value.int .i64 (countifG a0 es zeroG).code]) ∧ Below w.heap.size w w' := by
  have HC := Lib.hid (fun W (hb : Below w.heap.size w W) => aggs_countif a0 es zeroG W (hE.below hb) hs hn)
  have c0 := hc0 0 _ rfl
  have c1 := hc0 1 _ rfl
  have c2 := hc0 2 _ rfl
  have c3 := hc0 3 _ rfl
  have c4 := hc0 4 _ rfl
  have c5 := hc0 5 _ rfl
  have c6 := hc0 6 _ rfl
  have c7 := hc0 7 _ rfl
  have c8 := hc0 8 _ rfl
  have c9 := hc0 9 _ rfl
  have c10 := hc0 10 _ rfl
  have hb : b < w.heap.size := World.block_lt_of_cell? w _ c0
  simp only [Nat.add_zero] at c0 c1 c2 c3 c4 c5 c6 c7 c8 c9 c10
  clear hc0 hs hE hn
  go_enter Tryz.func116, Tryz.ntmps116
  go_wp2_with (first | (go_at_call 117; refine (HC.out _ (by (with_reducible repeat' (first | exact .refl _ _ | assumption | refine bmP ?_ ?_ | refine baP ?_ _ ?_ | refine .drew ?_ | refine .setCell ?_ ?_ _ | refine bdP ?_ _)) <;> go_size)).mono ?_; rintro e w3 ⟨rfl, hb⟩; obtain ⟨l3, q3, rfl⟩ := more_of_below hb; clear hb))
  all_goals go_returns
  all_goals exact ⟨rfl, (by (with_reducible repeat' (first | exact .refl _ _ | assumption | refine bmP ?_ ?_ | refine baP ?_ _ ?_ | refine .drew ?_ | refine .setCell ?_ ?_ _ | refine bdP ?_ _)) <;> go_size)⟩
set_option maxRecDepth 100000 in
set_option maxHeartbeats 1000000 in
theorem aggs_COUNTIF (a0 a1 : Arg) (es : List En) (b off c : Nat) (tx : Int) (w : World) (hc0 : ∀ i u, a0.cells[i]? = some u → w.cell? ⟨b, off + 0 + i, none⟩ = some u) (hc1 : ∀ i u, a1.cells[i]? = some u → w.cell? ⟨b, off + 11 + i, none⟩ = some u) (hE : EntsAt w a0 es) (hs : SmallA a0) (hn : a0.n ≤ 1000000000) :
    Calls Tryz.prog 118 #[.slice (some ⟨b, off, none⟩) 2 c, .int .i64 tx] w fun e w' => e = .returned (Value.agg #[Value.int .i64 (countifG a0 es a1.val).tag, Value.int .i64 (countifG a0 es a1.val).num, Value.string (countifG a0 es a1.val).str, Value.bool (countifG a0 es a1.val).is, Value.int .i64 (countifG a0 es a1.val).code]) ∧ Below w.heap.size w w' := by
  have HC := Lib.hid (fun W (hb : Below w.heap.size w W) => aggs_countif a0 es a1.val W (hE.below hb) hs hn)
  have c0 := hc0 0 _ rfl
  have c1 := hc0 1 _ rfl
  have c2 := hc0 2 _ rfl
  have c3 := hc0 3 _ rfl
  have c4 := hc0 4 _ rfl
  have c5 := hc0 5 _ rfl
  have c6 := hc0 6 _ rfl
  have c7 := hc0 7 _ rfl
  have c8 := hc0 8 _ rfl
  have c9 := hc0 9 _ rfl
  have c10 := hc0 10 _ rfl
  have d1 := hc1 1 _ rfl
  have d2 := hc1 2 _ rfl
  have d3 := hc1 3 _ rfl
  have d4 := hc1 4 _ rfl
  have d5 := hc1 5 _ rfl
  have hb : b < w.heap.size := World.block_lt_of_cell? w _ c0
  simp only [Nat.add_zero] at c0 c1 c2 c3 c4 c5 c6 c7 c8 c9 c10
  clear hc0 hc1 hs hE hn
  go_enter Tryz.func118, Tryz.ntmps118
  go_wp2
  go_region_with (first | (go_at_call 117; refine (HC.out _ (by (with_reducible repeat' (first | exact .refl _ _ | assumption | refine bmP ?_ ?_ | refine baP ?_ _ ?_ | refine .drew ?_ | refine .setCell ?_ ?_ _ | refine bdP ?_ _)) <;> go_size)).mono ?_; rintro e w3 ⟨rfl, hb⟩; obtain ⟨l3, q3, rfl⟩ := more_of_below hb; clear hb))
  all_goals go_wp2
  all_goals go_returns
  all_goals exact ⟨rfl, (by (with_reducible repeat' (first | exact .refl _ _ | assumption | refine bmP ?_ ?_ | refine baP ?_ _ ?_ | refine .drew ?_ | refine .setCell ?_ ?_ _ | refine bdP ?_ _)) <;> go_size)⟩
def lookG (a : Arg) (es : List En) (p : Int × Int) : V := es.foldl (fun o e => if plE a e = p then e.v else o) zeroG
theorem lookG_go (a : Arg) (p : Int × Int) : ∀ (es : List En) (o : Option Value) (v : V), o.getD (elV zeroG) = elV v →
    ((es.map fun e => (plE a e, elV e.v)).foldl (fun o q => if q.1 = p then some q.2 else o) o).getD (elV zeroG) = elV (es.foldl (fun o e => if plE a e = p then e.v else o) v)
  | [], o, v, h => h
  | e :: es, o, v, h => by
    simp only [List.map_cons, List.foldl_cons]
    refine lookG_go a p es _ _ ?_
    by_cases hp : plE a e = p
    · rw [if_pos hp, if_pos hp]; rfl
    · rw [if_neg hp, if_neg hp]; exact h
theorem lookG_eq (a : Arg) (es : List En) (p : Int × Int) : (getP (heldP a es) p).getD (.agg #[.int .i64 0, .int .i64 0, .string ⟨#[]⟩, .bool false, .int .i64 0]) = elV (lookG a es p) := lookG_go a p es none zeroG rfl
def indexG (a : Arg) (es : List En) (v1 v2 : V) : V :=
  if (intG v1).2 ≠ 0 then errG (intG v1).2 else if (intG v2).2 ≠ 0 then errG (intG v2).2
  else if (intG v1).1 < 1 then errG 5 else if rowsG a < (intG v1).1 then errG 5 else if (intG v2).1 < 1 then errG 5 else if colsG a < (intG v2).1 then errG 5
  else lookG a es ((intG v1).1 - 1, (intG v2).1 - 1)
theorem zero_V (w : World) : (zeroValue 29).run Tryz.prog w = .ok (.agg #[.int .i64 0, .int .i64 0, .string ⟨#[]⟩, .bool false, .int .i64 0]) w := by kernel_rfl
set_option maxRecDepth 100000 in
set_option maxHeartbeats 4000000 in
theorem aggs_INDEX (a0 a1 a2 : Arg) (es : List En) (b off c : Nat) (tx : Int) (w : World) (hc0 : ∀ i u, a0.cells[i]? = some u → w.cell? ⟨b, off + 0 + i, none⟩ = some u) (hc1 : ∀ i u, a1.cells[i]? = some u → w.cell? ⟨b, off + 11 + i, none⟩ = some u) (hc2 : ∀ i u, a2.cells[i]? = some u → w.cell? ⟨b, off + 22 + i, none⟩ = some u) (hE : EntsAt w a0 es) (hs : SmallA a0) (hes : ∀ e ∈ es, SmallE e) (hn : a0.n ≤ 1000000000) (h1 : Is64 a1.val.num) (h2 : Is64 a2.val.num) :
    Calls Tryz.prog 121 #[.slice (some ⟨b, off, none⟩) 3 c, .int .i64 tx] w fun e w' => e = .returned (Value.agg #[Value.int .i64 (indexG a0 es a1.val a2.val).tag, Value.int .i64 (indexG a0 es a1.val a2.val).num, Value.string (indexG a0 es a1.val a2.val).str, Value.bool (indexG a0 es a1.val a2.val).is, Value.int .i64 (indexG a0 es a1.val a2.val).code]) ∧ Below w.heap.size w w' := by
  have HH := Lib.hid (fun W (hb : Below w.heap.size w W) => aggs_held a0 es W (hE.below hb) hs hes (by omega))
  have HRW := Lib.hid (aggs_rows a0 hs)
  have HCL := Lib.hid (aggs_cols a0 hs)
  have HI1 := Lib.hid (aggs_integer a1.val h1)
  have HI2 := Lib.hid (aggs_integer a2.val h2)
  have hsr : -200001 ≤ rowsG a0 ∧ rowsG a0 ≤ 200001 := by unfold rowsG; unfold SmallA at hs; omega
  have hsc : -200001 ≤ colsG a0 ∧ colsG a0 ≤ 200001 := by unfold colsG; unfold SmallA at hs; omega
  have c0 := hc0 0 _ rfl
  have c1 := hc0 1 _ rfl
  have c2 := hc0 2 _ rfl
  have c3 := hc0 3 _ rfl
  have c4 := hc0 4 _ rfl
  have c5 := hc0 5 _ rfl
  have c6 := hc0 6 _ rfl
  have c7 := hc0 7 _ rfl
  have c8 := hc0 8 _ rfl
  have c9 := hc0 9 _ rfl
  have c10 := hc0 10 _ rfl
  have d1 := hc1 1 _ rfl
  have d2 := hc1 2 _ rfl
  have d3 := hc1 3 _ rfl
  have d4 := hc1 4 _ rfl
  have d5 := hc1 5 _ rfl
  have f1 := hc2 1 _ rfl
  have f2 := hc2 2 _ rfl
  have f3 := hc2 3 _ rfl
  have f4 := hc2 4 _ rfl
  have f5 := hc2 5 _ rfl
  have hb : b < w.heap.size := World.block_lt_of_cell? w _ c0
  have hb1 : b < w.heap.size + 1 := by omega
  simp only [Nat.add_zero] at c0 c1 c2 c3 c4 c5 c6 c7 c8 c9 c10
  unfold indexG
  obtain ⟨i, hi⟩ : ∃ i, (intG a1.val).1 = i := ⟨_, rfl⟩
  obtain ⟨ci, hci⟩ : ∃ ci, (intG a1.val).2 = ci := ⟨_, rfl⟩
  obtain ⟨j, hj⟩ : ∃ j, (intG a2.val).1 = j := ⟨_, rfl⟩
  obtain ⟨cj, hcj⟩ : ∃ cj, (intG a2.val).2 = cj := ⟨_, rfl⟩
  obtain ⟨ra, hra⟩ : ∃ ra, rowsG a0 = ra := ⟨_, rfl⟩
  obtain ⟨ca, hca⟩ : ∃ ca, colsG a0 = ca := ⟨_, rfl⟩
  rw [hi, hci] at HI1
  rw [hj, hcj] at HI2
  rw [hra] at HRW hsr
  rw [hca] at HCL hsc
  rw [hi, hci, hj, hcj, hra, hca]
  clear hc0 hc1 hc2 hs hE hn hes h1 h2 hi hci hj hcj hra hca
  by_cases h1 : ci = 0
  · subst h1
    rw [if_neg (by simp)]
    by_cases h2 : cj = 0
    · subst h2
      rw [if_neg (by simp)]
      by_cases g1 : i < 1
      · have g1' : (decide (i < 1)) = true := decide_eq_true g1
        rw [if_pos g1]
        clear g1
        go_enter Tryz.func121, Tryz.ntmps121
        go_wp2_with (first | (go_at_call_of 192 (Value.agg #[Value.int .i64 (a1.val).tag, Value.int .i64 (a1.val).num, Value.string (a1.val).str, Value.bool (a1.val).is, Value.int .i64 (a1.val).code]); refine (HI1.out _).mono ?_; rintro e w2 ⟨rfl, hb⟩; obtain ⟨m1, r1, rfl⟩ := more_of_below hb; clear hb) | (go_at_call_of 192 (Value.agg #[Value.int .i64 (a2.val).tag, Value.int .i64 (a2.val).num, Value.string (a2.val).str, Value.bool (a2.val).is, Value.int .i64 (a2.val).code]); refine (HI2.out _).mono ?_; rintro e w2 ⟨rfl, hb⟩; obtain ⟨m2, r2, rfl⟩ := more_of_below hb; clear hb) | (go_at_call 27; refine (value_Err _ _).mono ?_; rintro e w3 ⟨rfl, hb⟩; obtain ⟨l3, q3, rfl⟩ := more_of_below hb; clear hb))
        all_goals go_returns
        all_goals exact ⟨rfl, (by (with_reducible repeat' (first | exact .refl _ _ | assumption | refine bmP ?_ ?_ | refine baP ?_ _ ?_ | refine .drew ?_ | refine .setCell ?_ ?_ _ | refine bdP ?_ _)) <;> go_size)⟩
      · have g1' : (decide (i < 1)) = false := decide_eq_false g1
        rw [if_neg g1]
        by_cases g2 : ra < i
        · have g2' : (decide (ra < i)) = true := decide_eq_true g2
          rw [if_pos g2]
          clear g1 g2
          go_enter Tryz.func121, Tryz.ntmps121
          go_wp2_with (first | (go_at_call_of 192 (Value.agg #[Value.int .i64 (a1.val).tag, Value.int .i64 (a1.val).num, Value.string (a1.val).str, Value.bool (a1.val).is, Value.int .i64 (a1.val).code]); refine (HI1.out _).mono ?_; rintro e w2 ⟨rfl, hb⟩; obtain ⟨m1, r1, rfl⟩ := more_of_below hb; clear hb) | (go_at_call_of 192 (Value.agg #[Value.int .i64 (a2.val).tag, Value.int .i64 (a2.val).num, Value.string (a2.val).str, Value.bool (a2.val).is, Value.int .i64 (a2.val).code]); refine (HI2.out _).mono ?_; rintro e w2 ⟨rfl, hb⟩; obtain ⟨m2, r2, rfl⟩ := more_of_below hb; clear hb) | (go_at_call 126; refine (HRW.out _).mono ?_; rintro e w4 ⟨rfl, hb⟩; obtain ⟨l4, q4, rfl⟩ := more_of_below hb; clear hb) | (go_at_call 27; refine (value_Err _ _).mono ?_; rintro e w3 ⟨rfl, hb⟩; obtain ⟨l3, q3, rfl⟩ := more_of_below hb; clear hb))
          all_goals go_returns
          all_goals exact ⟨rfl, (by (with_reducible repeat' (first | exact .refl _ _ | assumption | refine bmP ?_ ?_ | refine baP ?_ _ ?_ | refine .drew ?_ | refine .setCell ?_ ?_ _ | refine bdP ?_ _)) <;> go_size)⟩
        · have g2' : (decide (ra < i)) = false := decide_eq_false g2
          rw [if_neg g2]
          by_cases g3 : j < 1
          · have g3' : (decide (j < 1)) = true := decide_eq_true g3
            rw [if_pos g3]
            clear g1 g2 g3
            go_enter Tryz.func121, Tryz.ntmps121
            go_wp2_with (first | (go_at_call_of 192 (Value.agg #[Value.int .i64 (a1.val).tag, Value.int .i64 (a1.val).num, Value.string (a1.val).str, Value.bool (a1.val).is, Value.int .i64 (a1.val).code]); refine (HI1.out _).mono ?_; rintro e w2 ⟨rfl, hb⟩; obtain ⟨m1, r1, rfl⟩ := more_of_below hb; clear hb) | (go_at_call_of 192 (Value.agg #[Value.int .i64 (a2.val).tag, Value.int .i64 (a2.val).num, Value.string (a2.val).str, Value.bool (a2.val).is, Value.int .i64 (a2.val).code]); refine (HI2.out _).mono ?_; rintro e w2 ⟨rfl, hb⟩; obtain ⟨m2, r2, rfl⟩ := more_of_below hb; clear hb) | (go_at_call 126; refine (HRW.out _).mono ?_; rintro e w4 ⟨rfl, hb⟩; obtain ⟨l4, q4, rfl⟩ := more_of_below hb; clear hb) | (go_at_call 27; refine (value_Err _ _).mono ?_; rintro e w3 ⟨rfl, hb⟩; obtain ⟨l3, q3, rfl⟩ := more_of_below hb; clear hb))
            all_goals go_returns
            all_goals exact ⟨rfl, (by (with_reducible repeat' (first | exact .refl _ _ | assumption | refine bmP ?_ ?_ | refine baP ?_ _ ?_ | refine .drew ?_ | refine .setCell ?_ ?_ _ | refine bdP ?_ _)) <;> go_size)⟩
          · have g3' : (decide (j < 1)) = false := decide_eq_false g3
            rw [if_neg g3]
            by_cases g4 : ca < j
            · have g4' : (decide (ca < j)) = true := decide_eq_true g4
              rw [if_pos g4]
              clear g1 g2 g3 g4
              go_enter Tryz.func121, Tryz.ntmps121
              go_wp2_with (first | (go_at_call_of 192 (Value.agg #[Value.int .i64 (a1.val).tag, Value.int .i64 (a1.val).num, Value.string (a1.val).str, Value.bool (a1.val).is, Value.int .i64 (a1.val).code]); refine (HI1.out _).mono ?_; rintro e w2 ⟨rfl, hb⟩; obtain ⟨m1, r1, rfl⟩ := more_of_below hb; clear hb) | (go_at_call_of 192 (Value.agg #[Value.int .i64 (a2.val).tag, Value.int .i64 (a2.val).num, Value.string (a2.val).str, Value.bool (a2.val).is, Value.int .i64 (a2.val).code]); refine (HI2.out _).mono ?_; rintro e w2 ⟨rfl, hb⟩; obtain ⟨m2, r2, rfl⟩ := more_of_below hb; clear hb) | (go_at_call 126; refine (HRW.out _).mono ?_; rintro e w4 ⟨rfl, hb⟩; obtain ⟨l4, q4, rfl⟩ := more_of_below hb; clear hb) | (go_at_call 128; refine (HCL.out _).mono ?_; rintro e w4 ⟨rfl, hb⟩; obtain ⟨l5, q5, rfl⟩ := more_of_below hb; clear hb) | (go_at_call 27; refine (value_Err _ _).mono ?_; rintro e w3 ⟨rfl, hb⟩; obtain ⟨l3, q3, rfl⟩ := more_of_below hb; clear hb))
              all_goals go_returns
              all_goals exact ⟨rfl, (by (with_reducible repeat' (first | exact .refl _ _ | assumption | refine bmP ?_ ?_ | refine baP ?_ _ ?_ | refine .drew ?_ | refine .setCell ?_ ?_ _ | refine bdP ?_ _)) <;> go_size)⟩
            · have g4' : (decide (ca < j)) = false := decide_eq_false g4
              rw [if_neg g4]
              have s1 : wrap64 (i - 1) = i - 1 := wr64 (by omega) (by omega)
              have s2 : wrap64 (j - 1) = j - 1 := wr64 (by omega) (by omega)
              have HOK := Lib.hid (show Ok64 (i - 1, j - 1) from ⟨⟨by simp only; omega, by simp only; omega⟩, ⟨by simp only; omega, by simp only; omega⟩⟩)
              obtain ⟨R, hR⟩ : ∃ R, lookG a0 es (i - 1, j - 1) = R := ⟨_, rfl⟩
              have HRR := Lib.hid hR
              rw [hR]
              clear g1 g2 g3 g4 hR
              go_enter Tryz.func121, Tryz.ntmps121
              go_wp2_with (first | (go_at_call_of 192 (Value.agg #[Value.int .i64 (a1.val).tag, Value.int .i64 (a1.val).num, Value.string (a1.val).str, Value.bool (a1.val).is, Value.int .i64 (a1.val).code]); refine (HI1.out _).mono ?_; rintro e w2 ⟨rfl, hb⟩; obtain ⟨m1, r1, rfl⟩ := more_of_below hb; clear hb) | (go_at_call_of 192 (Value.agg #[Value.int .i64 (a2.val).tag, Value.int .i64 (a2.val).num, Value.string (a2.val).str, Value.bool (a2.val).is, Value.int .i64 (a2.val).code]); refine (HI2.out _).mono ?_; rintro e w2 ⟨rfl, hb⟩; obtain ⟨m2, r2, rfl⟩ := more_of_below hb; clear hb) | (go_at_call 126; refine (HRW.out _).mono ?_; rintro e w4 ⟨rfl, hb⟩; obtain ⟨l4, q4, rfl⟩ := more_of_below hb; clear hb) | (go_at_call 128; refine (HCL.out _).mono ?_; rintro e w4 ⟨rfl, hb⟩; obtain ⟨l5, q5, rfl⟩ := more_of_below hb; clear hb) | (go_at_call 191; refine (HH.out _ (by (with_reducible repeat' (first | exact .refl _ _ | assumption | refine bmP ?_ ?_ | refine baP ?_ _ ?_ | refine .drew ?_ | refine .setCell ?_ ?_ _ | refine bdP ?_ _)) <;> go_size)).mono ?_; rintro e w5 ⟨bm, rfl, hM, hbm, hb⟩; obtain ⟨l6, q6, rfl⟩ := more_of_below hb; simp only [more_more, List.append_assoc] at hM; have HM := Lib.hid hM; clear hM hb) | (at_lookup; refine wpList_look1P _ rfl 229 _ _ rfl 232 29 place_key Tryz.underlying229 (zero_V _) _ _ rfl HM.out (i - 1, j - 1) rfl HOK.out ?_; rw [lookG_eq, HRR.out]; unfold elV))
              all_goals go_returns
              all_goals exact ⟨rfl, (by (with_reducible repeat' (first | exact .refl _ _ | assumption | refine bmP ?_ ?_ | refine baP ?_ _ ?_ | refine .drew ?_ | refine .setCell ?_ ?_ _ | refine bdP ?_ _)) <;> go_size)⟩
    · have h2' : (cj != 0) = true := by simpa using h2
      rw [if_pos h2]
      clear h2
      go_enter Tryz.func121, Tryz.ntmps121
      go_wp2_with (first | (go_at_call_of 192 (Value.agg #[Value.int .i64 (a1.val).tag, Value.int .i64 (a1.val).num, Value.string (a1.val).str, Value.bool (a1.val).is, Value.int .i64 (a1.val).code]); refine (HI1.out _).mono ?_; rintro e w2 ⟨rfl, hb⟩; obtain ⟨m1, r1, rfl⟩ := more_of_below hb; clear hb) | (go_at_call_of 192 (Value.agg #[Value.int .i64 (a2.val).tag, Value.int .i64 (a2.val).num, Value.string (a2.val).str, Value.bool (a2.val).is, Value.int .i64 (a2.val).code]); refine (HI2.out _).mono ?_; rintro e w2 ⟨rfl, hb⟩; obtain ⟨m2, r2, rfl⟩ := more_of_below hb; clear hb) | (go_at_call 27; refine (value_Err _ _).mono ?_; rintro e w3 ⟨rfl, hb⟩; obtain ⟨l3, q3, rfl⟩ := more_of_below hb; clear hb))
      all_goals go_returns
      all_goals exact ⟨rfl, (by (with_reducible repeat' (first | exact .refl _ _ | assumption | refine bmP ?_ ?_ | refine baP ?_ _ ?_ | refine .drew ?_ | refine .setCell ?_ ?_ _ | refine bdP ?_ _)) <;> go_size)⟩
  · have h1' : (ci != 0) = true := by simpa using h1
    rw [if_pos h1]
    clear h1
    go_enter Tryz.func121, Tryz.ntmps121
    go_wp2_with (first | (go_at_call_of 192 (Value.agg #[Value.int .i64 (a1.val).tag, Value.int .i64 (a1.val).num, Value.string (a1.val).str, Value.bool (a1.val).is, Value.int .i64 (a1.val).code]); refine (HI1.out _).mono ?_; rintro e w2 ⟨rfl, hb⟩; obtain ⟨m1, r1, rfl⟩ := more_of_below hb; clear hb) | (go_at_call 27; refine (value_Err _ _).mono ?_; rintro e w3 ⟨rfl, hb⟩; obtain ⟨l3, q3, rfl⟩ := more_of_below hb; clear hb))
    all_goals go_returns
    all_goals exact ⟨rfl, (by (with_reducible repeat' (first | exact .refl _ _ | assumption | refine bmP ?_ ?_ | refine baP ?_ _ ?_ | refine .drew ?_ | refine .setCell ?_ ?_ _ | refine bdP ?_ _)) <;> go_size)⟩
theorem bel_chain {Z wc W w3 : World} (h1 : Below Z.heap.size Z wc) (h3 : Below W.heap.size W w3) (h2 : Below wc.heap.size wc W) : Below Z.heap.size Z w3 :=
  (h1.trans (h2.mono h1.size)).trans (h3.mono (Nat.le_trans h1.size h2.size))
end Go.Proofs.YtegbhdeaicgpkaaGreatDoor
