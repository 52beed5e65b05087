/-
  EvalTurned: sums, products and comparisons seen from the other side: it returns true for every two values.
-/
import Derived.Test.YtlnccofmkikbgaaGreatDoorTurnT
import Derived.Test.YtlnccofmkikbgaaGreatDoorMayR
import Derived.Deep.CutBlock
namespace Go.Proofs.YtlnccofmkikbgaaGreatDoor
open Go Go.RowKit

/-- The cells of the law's argument. -/
def pairC (op : Int) (x y : V) (one two text : Int) : List Value := [.int .i64 op, .int .i64 x.tag, .int .i64 x.num, .string x.str, .bool x.is, .int .i64 x.code, .int .i64 y.tag, .int .i64 y.num, .string y.str, .bool y.is, .int .i64 y.code, .int .i64 one, .int .i64 two, .int .i64 text]
set_option maxRecDepth 100000 in
set_option maxHeartbeats 2000000 in
theorem turned_main (op one two text : Int) (x y : V) (hx : Fits x) (hy : Fits y) (mx : mayG x = true) (my : mayG y = true) (x4 : x.tag ≠ 4) (y4 : y.tag ≠ 4) (w : World) (hp : Pow10 w) : Calls Tryz.prog 5 #[.agg #[.int .i64 op, .int .i64 x.tag, .int .i64 x.num, .string x.str, .bool x.is, .int .i64 x.code, .int .i64 y.tag, .int .i64 y.num, .string y.str, .bool y.is, .int .i64 y.code, .int .i64 one, .int .i64 two, .int .i64 text]] w fun e w' => e = .returned (.bool true) ∧ Below w.heap.size w w' := by
  have k1 : (x.tag == 4) = false := by simp [x4]
  have k2 : (y.tag == 4) = false := by simp [y4]
  have HX := Lib.hid hx
  have HY := Lib.hid hy
  have HP := Lib.hid hp
  have hA : AtB (w.alloc (.cells #[.int .i64 op, .int .i64 x.tag, .int .i64 x.num, .string x.str, .bool x.is, .int .i64 x.code, .int .i64 y.tag, .int .i64 y.num, .string y.str, .bool y.is, .int .i64 y.code, .int .i64 one, .int .i64 two, .int .i64 text] 38)) w.heap.size (pairC op x y one two text) := AtB.new rfl
  have HA := Lib.hid hA
  have HX4 := Lib.hid x4
  have HY4 := Lib.hid y4
  clear hx hy hp x4 y4 hA
  go_enter Tryz.func5, Tryz.ntmps5
  go_wp2_with (first
    | (go_at_call_of 11 (Value.agg #[Value.int .i64 (x).tag, Value.int .i64 (x).num, Value.string (x).str, Value.bool (x).is, Value.int .i64 (x).code]); refine (ref02_May x HX.out.1.1 _).mono ?_; rw [mx]; rintro e w1 ⟨rfl, hb⟩; obtain ⟨lx, nx, rfl⟩ := more_of_below hb; clear hb)
    | (go_at_call_of 11 (Value.agg #[Value.int .i64 (y).tag, Value.int .i64 (y).num, Value.string (y).str, Value.bool (y).is, Value.int .i64 (y).code]); refine (ref02_May y HY.out.1.1 _).mono ?_; rw [my]; rintro e w1 ⟨rfl, hb⟩; obtain ⟨ly, ny, rfl⟩ := more_of_below hb; clear hb)
    | (go_at_call 6; refine (funcs_New0 _).mono ?_; rintro e w1 ⟨rfl, hb, hs⟩; obtain ⟨lf, nf, rfl⟩ := more_of_below hb; clear hb hs))
  go_at_call 7
  refine (eval_New _ 64 (by decide) (by decide) _).mono ?_
  rintro e w1 ⟨rfl, hE, hb⟩
  have hs2 := hb.size
  have hA1 := (HA.out.below (show Below (w.alloc _).heap.size (w.alloc _) (more _ _ _) from (by repeat (first | with_reducible exact Below.refl _ _ | with_reducible assumption | with_reducible refine below_more' ?_ (by go_size) | with_reducible refine bel_alloc ?_ _ (by go_size) | with_reducible refine Below.drew ?_ | with_reducible refine Below.setCell ?_ (by go_size) _ | with_reducible refine below_drewN ?_ _)))).below hb
  have HB1 := Lib.hid (show Below w.heap.size w w1 from Below.trans (show Below w.heap.size w (more _ _ _) from (by repeat (first | with_reducible exact Below.refl _ _ | with_reducible assumption | with_reducible refine below_more' ?_ (by go_size) | with_reducible refine bel_alloc ?_ _ (by go_size) | with_reducible refine Below.drew ?_ | with_reducible refine Below.setCell ?_ (by go_size) _ | with_reducible refine below_drewN ?_ _))) (hb.mono (by simp; omega)))
  simp only [more_size, alz] at hE hs2
  clear hb HA
  have c1 := hA1 1 _ rfl
  have c2 := hA1 2 _ rfl
  have c3 := hA1 3 _ rfl
  have c4 := hA1 4 _ rfl
  have c5 := hA1 5 _ rfl
  have c6 := hA1 6 _ rfl
  have c7 := hA1 7 _ rfl
  have c8 := hA1 8 _ rfl
  have c9 := hA1 9 _ rfl
  have c10 := hA1 10 _ rfl
  clear hA1
  have hl0 := cell_ltJ c1
  have hl1 : w.heap.size < w1.heap.size + 1 := by omega
  have hl2 : w.heap.size < w1.heap.size + 1 + 1 := by omega
  rw [List.length_append, List.length_append] at hE
  have hmk := make_row
  go_upto_block 0 with fail
  clear hmk c1 c2 c3 c4 c5 c6 c7 c8 c9 c10 hl0 hl1 hl2 k1 k2
  have hpe0 : w.heap.size ≤ w.heap.size + 1 + (lx.length + (ly.length + lf.length)) := by omega
  have hpe1 := cell_ltJ (hE 0 _ rfl)
  generalize w.heap.size + 1 + (lx.length + (ly.length + lf.length)) = pe at *
  generalize w.heap.size + 1 + (lx.length + ly.length) = pf at *
  have HE := Lib.hid hE
  clear hE hs2
  have hsz : w.heap.size ≤ w1.heap.size := HB1.out.size
  have HL : TLie w (w1.heap.size + 1 + 1 + 1 + 1 + 1 + 1) w1.heap.size (w1.heap.size + 1) pe (w1.heap.size + 1 + 1 + 1 + 1) (w1.heap.size + 1 + 1 + 1 + 1 + 1) (w1.heap.size + 1 + 1 + 1) (w1.heap.size + 1 + 1) := ⟨by omega, by omega, by omega, by omega, by omega, HP.out.lt⟩
  go_cut [9, 10] (fun s9 s10 wx => s9 = .slice (some ⟨w1.heap.size + 1 + 1 + 1 + 1, 0, none⟩) 14 14 ∧ s10 = .slice (some ⟨w1.heap.size + 1 + 1 + 1 + 1 + 1, 0, none⟩) 14 14 ∧ ∃ asked na L, TRel w wx (w1.heap.size + 1 + 1 + 1 + 1 + 1 + 1) w1.heap.size (w1.heap.size + 1) pe (w1.heap.size + 1 + 1 + 1 + 1) (w1.heap.size + 1 + 1 + 1 + 1 + 1) (w1.heap.size + 1 + 1 + 1) (w1.heap.size + 1 + 1) ⟨pf, 0, none⟩ x y (rowF x y 14) (rowF y x 14) asked na L)
  case rest =>
    obtain ⟨rfl, rfl, asked, na, L, hT⟩ := hcut
    go_at_K
    go_step
    exact turned_tail hT mx my HX4.out HY4.out
  go_wp2_with fail
  go_loopw [11] (fun t wr => ∃ k : Nat, 3 ≤ k ∧ k ≤ 14 ∧ t = .int .i64 k ∧ ∃ asked na L, na ≤ 6 * (k - 3) ∧ TRel w wr (w1.heap.size + 1 + 1 + 1 + 1 + 1 + 1) w1.heap.size (w1.heap.size + 1) pe (w1.heap.size + 1 + 1 + 1 + 1) (w1.heap.size + 1 + 1 + 1 + 1 + 1) (w1.heap.size + 1 + 1 + 1) (w1.heap.size + 1 + 1) ⟨pf, 0, none⟩ x y (rowF x y k) (rowF y x k) asked na L) (fun t _ => 14 - (intOf t).toNat)
  case atStart =>
    refine ⟨3, by omega, by omega, rfl, .slice none 0 0, 0, [], by omega, ?_⟩
    rw [rowF_zero, rowF_zero]
    refine ⟨HB1.out.trans ((show Below w1.heap.size w1 _ from (by repeat (first | with_reducible exact Below.refl _ _ | with_reducible assumption | with_reducible refine below_more' ?_ (by go_size) | with_reducible refine bel_alloc ?_ _ (by go_size) | with_reducible refine Below.drew ?_ | with_reducible refine Below.setCell ?_ (by go_size) _ | with_reducible refine below_drewN ?_ _))).mono hsz), ?_, ?_, HE.out.below (by repeat (first | with_reducible exact Below.refl _ _ | with_reducible assumption | with_reducible refine below_more' ?_ (by go_size) | with_reducible refine bel_alloc ?_ _ (by go_size) | with_reducible refine Below.drew ?_ | with_reducible refine Below.setCell ?_ (by go_size) _ | with_reducible refine below_drewN ?_ _)), ?_, VRow.allocI (VRow.new (by simp)) _, VRow.new (by simp), (HP.out.below HB1.out (Nat.le_refl _)).below (by repeat (first | with_reducible exact Below.refl _ _ | with_reducible assumption | with_reducible refine below_more' ?_ (by go_size) | with_reducible refine bel_alloc ?_ _ (by go_size) | with_reducible refine Below.drew ?_ | with_reducible refine Below.setCell ?_ (by go_size) _ | with_reducible refine below_drewN ?_ _)) (Nat.le_refl _)⟩
    · exact (((((AtB.new rfl).allocI _).allocI _).allocI _).allocI _).allocI _
    · exact ((((AtB.new (by simp)).allocI _).allocI _).allocI _).allocI _
    · refine ⟨by omega, by omega, by omega, by simp, ?_, ?_, ?_, World.ownsRow_nil _ _ _ _⟩
      · exact AtB.allocI (AtB.allocI (fun j u hu => (AtB.new (by simp)) j u (by match j, hu with | 0, hu => exact hu | 1, hu => exact hu | _ + 2, hu => cases hu)) _) _
      · exact frozen_allocJ (frozen_allocJ (frozen_of_row _ _ _ _ _ (by have h := heap_alloc_new (((w1.alloc (.cells #[.int .i64 1, .int .i64 1] 42)).alloc (.cells #[.int .i64 2, .int .i64 1] 42)).alloc (.cells #[.int .i64 1, .int .i64 1, .int .i64 x.tag, .int .i64 x.num, .string x.str, .bool x.is, .int .i64 x.code, .int .i64 2, .int .i64 1, .int .i64 y.tag, .int .i64 y.num, .string y.str, .bool y.is, .int .i64 y.code] 49)) (.cells #[.slice (some ⟨w1.heap.size + 1 + 1, 0, none⟩) 2 2, .slice none 0 0, .bool false, .slice none 0 0] 56); simpa using h)) (by simp) _) (by simp) _
      · exact (((AtB.new (by simp)).allocI _).allocI _).allocI _
  case round =>
    obtain ⟨k, hk3, hk14, rfl, asked, na, L, hna, hT⟩ := hrel
    have HT := Lib.hid hT
    by_cases hlt : k < 14
    · have ki : (k : Int) ≤ 13 := by omega
      have o0 := hT.one 0 _ rfl
      have o1 := hT.one 1 _ rfl
      have t0 := hT.two 0 _ rfl
      have t1 := hT.two 1 _ rfl
      have l0 := cell_ltJ o0
      have l1 : w1.heap.size < wr.heap.size + 1 := by omega
      have l2 : w1.heap.size < wr.heap.size + 1 + 1 := by omega
      have l3 : w1.heap.size < wr.heap.size + 1 + 1 + 1 := by omega
      have m0 := cell_ltJ t0
      have m1 : w1.heap.size + 1 < wr.heap.size + 1 := by omega
      have m2 : w1.heap.size + 1 < wr.heap.size + 1 + 1 := by omega
      have m3 : w1.heap.size + 1 < wr.heap.size + 1 + 1 + 1 := by omega
      clear hT
      obtain ⟨r1, hr1⟩ : ∃ r, twoG 64 k x y = r := ⟨_, rfl⟩
      obtain ⟨r2, hr2⟩ : ∃ r, twoG 64 k y x = r := ⟨_, rfl⟩
      have HR1 := Lib.hid hr1
      have HR2 := Lib.hid hr2
      have hki0 : (0 : Int) ≤ (k : Int) := by omega
      have hki1 : (k : Int) < 14 := by omega
      have HK := Lib.hid (show 3 ≤ k from hk3)
      have HN := Lib.hid hna
      clear hr1 hr2 hna hk3 hk14
      go_upto_region 19 with fail
      go_cut [11] (fun s11 wx => s11 = .int .i64 k ∧ ∃ asked na L, na ≤ 6 * (k - 3) + 3 ∧ TRel w wx (w1.heap.size + 1 + 1 + 1 + 1 + 1 + 1) w1.heap.size (w1.heap.size + 1) pe (w1.heap.size + 1 + 1 + 1 + 1) (w1.heap.size + 1 + 1 + 1 + 1 + 1) (w1.heap.size + 1 + 1 + 1) (w1.heap.size + 1 + 1) ⟨pf, 0, none⟩ x y (rowF x y (k + 1)) (rowF y x k) asked na L ∧ AtB wx wr.heap.size (nodeC 1) ∧ AtB wx (wr.heap.size + 1) (nodeC 2) ∧ AtB wx (wr.heap.size + 1 + 1) (nodeO k))
      case first =>
        go_wp2_with fail
        go_at_call 8
        refine (HT.out.work HL (show Below wr.heap.size wr _ from (by repeat (first | with_reducible exact Below.refl _ _ | with_reducible assumption | with_reducible refine below_more' ?_ (by go_size) | with_reducible refine bel_alloc ?_ _ (by go_size) | with_reducible refine Below.drew ?_ | with_reducible refine Below.setCell ?_ (by go_size) _ | with_reducible refine below_drewN ?_ _))) 1 2 k ⟨by decide, by decide, by decide, by decide⟩ ⟨by decide, by decide, by decide, by decide⟩ (by have := HK.out; omega) ki x y rfl rfl HX.out HY.out r1 HR1.out (wr.heap.size + 1 + 1 + 1) 3 (wr.heap.size + 1 + 1 + 1 + 1) (by omega) ?_ (by have := HN.out; omega)).mono ?_
        · exact ⟨rfl, fun _ => ⟨_, 0, rfl, Nat.lt_succ_self _, fun j u hu => by rw [Nat.zero_add]; exact (AtB.new (by simp)) j u hu⟩⟩
        · rintro e w2 ⟨rfl, ask2, na2, L2, hn2, hT2, hk2⟩
          have v0 : w2.cell? ⟨w1.heap.size + 1 + 1 + 1 + 1, k * 5, none⟩ = some _ := hT2.rv.cell k 0 _ hlt rfl
          have v1 := hT2.rv.cell k 1 _ hlt rfl
          have v2 := hT2.rv.cell k 2 _ hlt rfl
          have v3 := hT2.rv.cell k 3 _ hlt rfl
          have v4 := hT2.rv.cell k 4 _ hlt rfl
          have f0 := hT2.rv.fr (k * 5)
          have f1 := hT2.rv.fr (k * 5 + 1)
          have f2 := hT2.rv.fr (k * 5 + 2)
          have f3 := hT2.rv.fr (k * 5 + 3)
          have f4 := hT2.rv.fr (k * 5 + 4)
          have HT2 := Lib.hid hT2
          have HK2 := Lib.hid hk2
          clear hT2 hk2
          go_wp2
          go_meet
          have hb1 := HT.out.src.lt
          have hb2 := HT.out.src.le
          have hrw : ∀ q, wr.heap.size ≤ q → asked.ownBlock ≠ some q := fun q hq e => by have := (HT.out.src.own.lt q e).2; omega
          have h5 := HT2.out.setv HL k r1 hlt
          have e5 := rowF_succ x y k HK.out
          rw [HR1.out] at e5
          rw [e5] at h5
          refine ⟨rfl, ask2, na2, L2, by have := HN.out; omega, h5, ?_, ?_, ?_⟩
          · exact atB_same (atB_kept ((((AtB.new rfl).allocI _).allocI _).allocI _) HK2.out (by omega) (hrw _ (by omega))) (set5_block (o := k * 5) (v := r1) (by omega))
          · exact atB_same (atB_kept (((AtB.new (by simp)).allocI _).allocI _) HK2.out (by omega) (hrw _ (by omega))) (set5_block (o := k * 5) (v := r1) (by omega))
          · exact atB_same (atB_kept ((AtB.new (by simp)).allocI _) HK2.out (by omega) (hrw _ (by omega))) (set5_block (o := k * 5) (v := r1) (by omega))
      case rest =>
        obtain ⟨rfl, ask1, na1, L1, hn1, hT1, n0, n1, n2⟩ := hcut
        have a0 := n0 0 _ rfl
        have a1 := n0 1 _ rfl
        have a2 := n0 2 _ rfl
        have a3 := n0 3 _ rfl
        have a4 := n0 4 _ rfl
        have a5 := n0 5 _ rfl
        have a6 := n0 6 _ rfl
        have a7 := n0 7 _ rfl
        have a8 := n0 8 _ rfl
        have a9 := n0 9 _ rfl
        have a10 := n0 10 _ rfl
        have a11 := n0 11 _ rfl
        have a12 := n0 12 _ rfl
        have a13 := n0 13 _ rfl
        have a14 := n0 14 _ rfl
        have b0 := n1 0 _ rfl
        have b1 := n1 1 _ rfl
        have b2 := n1 2 _ rfl
        have b3 := n1 3 _ rfl
        have b4 := n1 4 _ rfl
        have b5 := n1 5 _ rfl
        have b6 := n1 6 _ rfl
        have b7 := n1 7 _ rfl
        have b8 := n1 8 _ rfl
        have b9 := n1 9 _ rfl
        have b10 := n1 10 _ rfl
        have b11 := n1 11 _ rfl
        have b12 := n1 12 _ rfl
        have b13 := n1 13 _ rfl
        have b14 := n1 14 _ rfl
        have d0 := n2 0 _ rfl
        have d1 := n2 1 _ rfl
        have d2 := n2 2 _ rfl
        have d3 := n2 3 _ rfl
        have d4 := n2 4 _ rfl
        have d5 := n2 5 _ rfl
        have d6 := n2 6 _ rfl
        have d7 := n2 7 _ rfl
        have d8 := n2 8 _ rfl
        have d9 := n2 9 _ rfl
        have d10 := n2 10 _ rfl
        have d11 := n2 11 _ rfl
        have d12 := n2 12 _ rfl
        have d13 := n2 13 _ rfl
        have d14 := n2 14 _ rfl
        have HT1 := Lib.hid hT1
        clear hT1 n0 n1 n2 o0 o1 t0 t1 l0 l1 l2 l3 m0 m1 m2 m3
        go_wp2_with fail
        go_at_call 8
        refine (HT1.out.work HL (show Below wc.heap.size wc _ from (by repeat (first | with_reducible exact Below.refl _ _ | with_reducible assumption | with_reducible refine below_more' ?_ (by go_size) | with_reducible refine bel_alloc ?_ _ (by go_size) | with_reducible refine Below.drew ?_ | with_reducible refine Below.setCell ?_ (by go_size) _ | with_reducible refine below_drewN ?_ _))) 2 1 k ⟨by decide, by decide, by decide, by decide⟩ ⟨by decide, by decide, by decide, by decide⟩ (by have := HK.out; omega) ki y x rfl rfl HY.out HX.out r2 HR2.out wc.heap.size 3 (wc.heap.size + 1) (Nat.le_refl _) ?_ (by have := HN.out; omega)).mono ?_
        · exact ⟨rfl, fun _ => ⟨_, 0, rfl, Nat.lt_succ_self _, fun j u hu => by rw [Nat.zero_add]; exact (AtB.new rfl) j u hu⟩⟩
        · rintro e w2 ⟨rfl, ask2, na2, L2, hn2, hT2, hk2⟩
          have v0 : w2.cell? ⟨w1.heap.size + 1 + 1 + 1 + 1 + 1, k * 5, none⟩ = some _ := hT2.ru.cell k 0 _ hlt rfl
          have v1 := hT2.ru.cell k 1 _ hlt rfl
          have v2 := hT2.ru.cell k 2 _ hlt rfl
          have v3 := hT2.ru.cell k 3 _ hlt rfl
          have v4 := hT2.ru.cell k 4 _ hlt rfl
          have f0 := hT2.ru.fr (k * 5)
          have f1 := hT2.ru.fr (k * 5 + 1)
          have f2 := hT2.ru.fr (k * 5 + 2)
          have f3 := hT2.ru.fr (k * 5 + 3)
          have f4 := hT2.ru.fr (k * 5 + 4)
          have HT2 := Lib.hid hT2
          clear hT2 hk2
          go_wp2
          have h5 := HT2.out.setu HL k r2 hlt
          have e5 := rowF_succ y x k HK.out
          rw [HR2.out] at e5
          rw [e5] at h5
          have hn := HN.out
          have hk3 := HK.out
          exact ⟨⟨k + 1, by omega, by omega, by go_num, ask2, na2, L2, by omega, h5⟩, by simp [intOf]; omega⟩
    · obtain rfl : k = 14 := by omega
      have ki : ¬ ((14 : Nat) : Int) ≤ 13 := by decide
      clear hk3 hk14 hlt hna
      go_wp2_with fail
      go_meet
      exact ⟨rfl, rfl, asked, na, L, hT⟩
end Go.Proofs.YtlnccofmkikbgaaGreatDoor
