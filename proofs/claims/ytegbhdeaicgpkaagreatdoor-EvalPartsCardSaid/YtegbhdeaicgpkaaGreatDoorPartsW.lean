/-
  EvalParts: what an operation makes of two cells hangs on their values alone: it returns true for every two values.
-/
import Derived.Test.YtegbhdeaicgpkaaGreatDoorPartsM
import Derived.Test.YtegbhdeaicgpkaaGreatDoorMayR
namespace Go.Proofs.YtegbhdeaicgpkaaGreatDoor
open Go Go.RowKit

def pairC (op : Int) (x y : V) (one two text : Int) : List Value := [.int .i64 op, .int .i64 x.tag, .int .i64 x.num, .string x.str, .bool x.is, .int .i64 x.code, .int .i64 y.tag, .int .i64 y.num, .string y.str, .bool y.is, .int .i64 y.code, .int .i64 one, .int .i64 two, .int .i64 text]
set_option maxRecDepth 100000 in
set_option maxHeartbeats 2000000 in
theorem parts_main (op one two text : Int) (hi : Is64 op ∧ Is64 one ∧ Is64 two ∧ Is64 text) (x y : V) (hx : Fits x) (hy : Fits y) (mx : mayG x = true) (my : mayG y = true) (w : World) (hp : Pow10 w) : Calls Tryz.prog 5 #[.agg #[.int .i64 op, .int .i64 x.tag, .int .i64 x.num, .string x.str, .bool x.is, .int .i64 x.code, .int .i64 y.tag, .int .i64 y.num, .string y.str, .bool y.is, .int .i64 y.code, .int .i64 one, .int .i64 two, .int .i64 text]] w fun e w' => e = .returned (.bool true) ∧ Below w.heap.size w w' := by
  have HX := Lib.hid hx
  have HY := Lib.hid hy
  have HP := Lib.hid hp
  have HI := Lib.hid hi
  obtain ⟨k, hk⟩ : ∃ k, 3 + pickX op 11 = k := ⟨_, rfl⟩
  have hk1 := pickX_lt op 11 (by decide)
  have HK := Lib.hid hk
  have hk3 : 3 ≤ k := by omega
  have hk13 : k ≤ 13 := by omega
  have HA0 := Lib.hid (show AtB (((w.alloc (.cells #[.int .i64 op, .int .i64 x.tag, .int .i64 x.num, .string x.str, .bool x.is, .int .i64 x.code, .int .i64 y.tag, .int .i64 y.num, .string y.str, .bool y.is, .int .i64 y.code, .int .i64 one, .int .i64 two, .int .i64 text] 48)).alloc (.cells #[.int .i64 x.tag, .int .i64 x.num, .string x.str, .bool x.is, .int .i64 x.code] 29)).alloc (.cells #[.int .i64 y.tag, .int .i64 y.num, .string y.str, .bool y.is, .int .i64 y.code] 29)) w.heap.size (pairC op x y one two text) from ((AtB.new rfl).allocI _).allocI _)
  have HA1 := Lib.hid (show AtB (((w.alloc (.cells #[.int .i64 op, .int .i64 x.tag, .int .i64 x.num, .string x.str, .bool x.is, .int .i64 x.code, .int .i64 y.tag, .int .i64 y.num, .string y.str, .bool y.is, .int .i64 y.code, .int .i64 one, .int .i64 two, .int .i64 text] 48)).alloc (.cells #[.int .i64 x.tag, .int .i64 x.num, .string x.str, .bool x.is, .int .i64 x.code] 29)).alloc (.cells #[.int .i64 y.tag, .int .i64 y.num, .string y.str, .bool y.is, .int .i64 y.code] 29)) (w.heap.size + 1) (vc x) from (AtB.new (by simp)).allocI _)
  have HA2 := Lib.hid (show AtB (((w.alloc (.cells #[.int .i64 op, .int .i64 x.tag, .int .i64 x.num, .string x.str, .bool x.is, .int .i64 x.code, .int .i64 y.tag, .int .i64 y.num, .string y.str, .bool y.is, .int .i64 y.code, .int .i64 one, .int .i64 two, .int .i64 text] 48)).alloc (.cells #[.int .i64 x.tag, .int .i64 x.num, .string x.str, .bool x.is, .int .i64 x.code] 29)).alloc (.cells #[.int .i64 y.tag, .int .i64 y.num, .string y.str, .bool y.is, .int .i64 y.code] 29)) (w.heap.size + 1 + 1) (vc y) from AtB.new (by simp))
  clear hx hy hp hi hk
  have hp0 := hk1.1
  have hp1 := hk1.2
  clear hk1
  go_enter Tryz.func5, Tryz.ntmps5
  go_upto_region 7 with (first
    | (go_at_call_of 18 (Value.agg #[Value.int .i64 (x).tag, Value.int .i64 (x).num, Value.string (x).str, Value.bool (x).is, Value.int .i64 (x).code]); refine (ref02_May x HX.out.1.1 _).mono ?_; rw [mx]; rintro e w1 ⟨rfl, hb⟩; obtain ⟨lx, nx, rfl⟩ := more_of_below hb; clear hb)
    | (go_at_call_of 18 (Value.agg #[Value.int .i64 (y).tag, Value.int .i64 (y).num, Value.string (y).str, Value.bool (y).is, Value.int .i64 (y).code]); refine (ref02_May y HY.out.1.1 _).mono ?_; rw [my]; rintro e w1 ⟨rfl, hb⟩; obtain ⟨ly, ny, rfl⟩ := more_of_below hb; clear hb))
  go_cut [7] (fun s7 wx => s7 = .int .i64 k ∧ Below w.heap.size w wx ∧ AtB wx w.heap.size (pairC op x y one two text) ∧ AtB wx (w.heap.size + 1) (vc x) ∧ AtB wx (w.heap.size + 1 + 1) (vc y))
  case first =>
    go_wp2_with (first | (go_at_call 20; refine (pick_law op 11 HI.out.1 (by decide) (by decide) _).mono ?_; rintro e w1 ⟨rfl, rfl⟩))
    go_meet
    exact ⟨by rw [HK.out], (by repeat (first | with_reducible exact Below.refl _ _ | with_reducible assumption | with_reducible refine below_more' ?_ (by go_size) | with_reducible refine bel_alloc ?_ _ (by go_size) | with_reducible refine Below.drew ?_ | with_reducible refine Below.setCell ?_ (by go_size) _ | with_reducible refine below_drewN ?_ _)), HA0.out.below (by repeat (first | with_reducible exact Below.refl _ _ | with_reducible assumption | with_reducible refine below_more' ?_ (by go_size) | with_reducible refine bel_alloc ?_ _ (by go_size) | with_reducible refine Below.drew ?_ | with_reducible refine Below.setCell ?_ (by go_size) _ | with_reducible refine below_drewN ?_ _)), HA1.out.below (by repeat (first | with_reducible exact Below.refl _ _ | with_reducible assumption | with_reducible refine below_more' ?_ (by go_size) | with_reducible refine bel_alloc ?_ _ (by go_size) | with_reducible refine Below.drew ?_ | with_reducible refine Below.setCell ?_ (by go_size) _ | with_reducible refine below_drewN ?_ _)), HA2.out.below (by repeat (first | with_reducible exact Below.refl _ _ | with_reducible assumption | with_reducible refine below_more' ?_ (by go_size) | with_reducible refine bel_alloc ?_ _ (by go_size) | with_reducible refine Below.drew ?_ | with_reducible refine Below.setCell ?_ (by go_size) _ | with_reducible refine below_drewN ?_ _))⟩
  case rest =>
    obtain ⟨rfl, hB, a0, a1, a2⟩ := hcut
    have HB1 := Lib.hid hB
    obtain ⟨wa, hwa⟩ : ∃ wa, wa = wc := ⟨_, rfl⟩
    subst hwa
    have q13 := a0 13 _ rfl
    have l13 := cell_ltJ q13
    have hx0 := pickX_lt text 1024 (by decide)
    have ht0 := hx0.1
    have ht1 := hx0.2
    obtain ⟨tx, htx⟩ : ∃ t, pickX text 1024 = t := ⟨_, rfl⟩
    rw [htx] at ht0 ht1
    have HTX := Lib.hid htx
    have hwr : IntKind.i64.wrap (1 + tx) = 1 + tx := by rw [IntKind.wrap_i64]; omega
    have t1 : 1 ≤ 1 + tx := by omega
    have t2 : 1 + tx ≤ 1024 := by omega
    have A0 := Lib.hid a0
    have A1 := Lib.hid a1
    have A2 := Lib.hid a2
    have HB := Lib.hid hB
    clear htx hx0 a0 a1 a2 hB HA0 HA1 HA2
    go_wp2_with fail
    go_cut [8] (fun s8 wx => ∃ p tp, s8 = .pointer (some ⟨p, 0, none⟩) ∧ AtB wx p (evCells tp (1 + tx)) ∧ Below wa.heap.size wa wx ∧ wa.heap.size ≤ p)
    case first =>
      go_region_held3 (fun w' => w'.cell? ⟨w.heap.size, 13, none⟩ = some (.int .i64 text)) (first | (go_keep; done) | (rw [more_cell (by first | assumption | (simp; omega))]; assumption))
        (first
          | (go_at_call 6; refine (funcs_New0 _).mono ?_; rintro e w1 ⟨rfl, hb, hs⟩; obtain ⟨lf, nf, rfl⟩ := more_of_below hb; clear hb hs)
          | (go_at_call 20; refine (pick_law text 1024 HI.out.2.2.2 (by decide) (by decide) _).mono ?_; rw [HTX.out]; rintro e w1 ⟨rfl, rfl⟩)
          | (go_at_call 21; refine (eval_New _ (1 + tx) t1 t2 _).mono ?_; rintro e w1 ⟨rfl, hE, hb⟩; obtain ⟨lg, ng, rfl⟩ := more_of_below hb; have HE := Lib.hid hE; clear hb hE))
      all_goals go_wp2
      all_goals go_meet
      all_goals exact ⟨_, _, rfl, by have h := HE.out; simp only [go_sem] at h; exact h, (by repeat (first | with_reducible exact Below.refl _ _ | with_reducible assumption | with_reducible refine below_more' ?_ (by go_size) | with_reducible refine bel_alloc ?_ _ (by go_size) | with_reducible refine Below.drew ?_ | with_reducible refine Below.setCell ?_ (by go_size) _ | with_reducible refine below_drewN ?_ _)), by omega⟩
    case rest =>
      obtain ⟨pe, tp, rfl, hE, hb, hpe⟩ := hcut
      have hb0 : Below w.heap.size w wc := HB.out.trans (hb.mono HB.out.size)
      have a0 := A0.out.below hb
      have a1 := A1.out.below hb
      have a2 := A2.out.below hb
      have q11 := a0 11 _ rfl
      have q12 := a0 12 _ rfl
      have x0 := a1 0 _ rfl
      have x1 := a1 1 _ rfl
      have x2 := a1 2 _ rfl
      have x3 := a1 3 _ rfl
      have x4 := a1 4 _ rfl
      have y0 := a2 0 _ rfl
      have y1 := a2 1 _ rfl
      have y2 := a2 2 _ rfl
      have y3 := a2 3 _ rfl
      have y4 := a2 4 _ rfl
      have l0 := cell_ltJ q11
      have lx := cell_ltJ x0
      have ly := cell_ltJ y0
      have l01 : w.heap.size < wc.heap.size + 1 := by omega
      have lx1 : w.heap.size + 1 < wc.heap.size + 1 := by omega
      have ly1 : w.heap.size + 1 + 1 < wc.heap.size + 1 := by omega
      have lx2 : w.heap.size + 1 < wc.heap.size + 1 + 1 := by omega
      have ly2 : w.heap.size + 1 + 1 < wc.heap.size + 1 + 1 := by omega
      have lx3 : w.heap.size + 1 < wc.heap.size + 1 + 1 + 1 := by omega
      have ly3 : w.heap.size + 1 + 1 < wc.heap.size + 1 + 1 + 1 := by omega
      have g1 := pickX_lt one 9 (by decide)
      have g2 := pickX_lt two 9 (by decide)
      obtain ⟨p1, hp1⟩ : ∃ p, pickX one 9 = p := ⟨_, rfl⟩
      obtain ⟨p2, hp2⟩ : ∃ p, pickX two 9 = p := ⟨_, rfl⟩
      rw [hp1] at g1
      rw [hp2] at g2
      have g10 := g1.1
      have g11 := g1.2
      have g20 := g2.1
      have g21 := g2.2
      have HP1 := Lib.hid hp1
      have HP2 := Lib.hid hp2
      have HE := Lib.hid hE
      have HB0 := Lib.hid hb0
      have HA1 := Lib.hid a1
      have HA2 := Lib.hid a2
      clear g1 g2 hp1 hp2 hE hb0 a0 a1 a2 hb A0 A1 A2 HB q13 l13
      go_upto_region 15 with (first
        | (go_at_call_of 20 (Value.int .i64 one); refine (pick_law one 9 HI.out.2.1 (by decide) (by decide) _).mono ?_; rw [HP1.out]; rintro e w1 ⟨rfl, rfl⟩)
        | (go_at_call_of 20 (Value.int .i64 two); refine (pick_law two 9 HI.out.2.2.1 (by decide) (by decide) _).mono ?_; rw [HP2.out]; rintro e w1 ⟨rfl, rfl⟩))
      have hsz : w.heap.size ≤ wc.heap.size := HB0.out.size
      have hsz2 : w.heap.size + 1 + 1 < wc.heap.size := by omega
      have hpe2 := cell_ltJ (HE.out 0 _ rfl)
      have hpe3 : w.heap.size ≤ wa.heap.size := HB1.out.size
      have HL : PLie w (wc.heap.size + 1 + 1 + 1 + 1 + 1) pe (w.heap.size + 1) (w.heap.size + 1 + 1) (wc.heap.size + 1 + 1) (wc.heap.size + 1 + 1 + 1 + 1) := ⟨by omega, by omega, by omega, HP.out.lt⟩
      obtain ⟨wb, hwb⟩ : ∃ wb, wb = wc := ⟨_, rfl⟩
      subst hwb
      obtain ⟨r, hr⟩ : ∃ r, twoG (1 + tx) k x y = r := ⟨_, rfl⟩
      have HR := Lib.hid hr
      clear hr x0 x1 x2 x3 x4 y0 y1 y2 y3 y4 q11 q12 l01 lx1 ly1 lx2 ly2 lx3 ly3
      go_cut [13] (fun s13 wx => s13 = s13 ∧ ∃ pv asked na L, s13 = .pointer (some ⟨pv, 0, none⟩) ∧ wb.heap.size + 1 + 1 + 1 + 1 < pv ∧ na ≤ 3 ∧ PRel w wx (wb.heap.size + 1 + 1 + 1 + 1 + 1) pe (w.heap.size + 1) (w.heap.size + 1 + 1) (wb.heap.size + 1 + 1) (wb.heap.size + 1 + 1 + 1 + 1) (wb.heap.size + 1 + 1 + 1) tp (1 + tx) (1 + p1) (1 + p2) k x y asked na L ∧ AtB wx pv (vc r) ∧ asked.ownBlock ≠ some pv)
      case first =>
        have h0 : PRel w (((((wb.alloc (.cells #[.int .i64 (1 + p1), .int .i64 1] 44)).alloc (.cells #[.int .i64 (1 + p2), .int .i64 2] 44)).alloc (.cells #[.int .i64 2, .int .i64 0, .int .i64 0, .string ⟨#[]⟩, .bool false, .int .i64 0, .int .i64 (1 + p1), .int .i64 1, .int .i64 0, .int .i64 0, .int .i64 0, .int .i64 0, .int .i64 0, .string ⟨#[]⟩, .int .i64 0, .int .i64 2, .int .i64 0, .int .i64 0, .string ⟨#[]⟩, .bool false, .int .i64 0, .int .i64 (1 + p2), .int .i64 2, .int .i64 0, .int .i64 0, .int .i64 0, .int .i64 0, .int .i64 0, .string ⟨#[]⟩, .int .i64 0, .int .i64 4, .int .i64 0, .int .i64 0, .string ⟨#[]⟩, .bool false, .int .i64 0, .int .i64 0, .int .i64 0, .int .i64 0, .int .i64 0, .int .i64 0, .int .i64 0, .int .i64 k, .string ⟨#[]⟩, .int .i64 0] 54)).alloc (.cells #[.int .i64 (1 + p1), .int .i64 1, .int .i64 x.tag, .int .i64 x.num, .string x.str, .bool x.is, .int .i64 x.code, .int .i64 (1 + p2), .int .i64 2, .int .i64 y.tag, .int .i64 y.num, .string y.str, .bool y.is, .int .i64 y.code] 46)).alloc (.cells #[.slice (some ⟨wb.heap.size + 1 + 1 + 1, 0, none⟩) 2 2, .slice none 0 0, .bool false, .slice none 0 0] 62)) (wb.heap.size + 1 + 1 + 1 + 1 + 1) pe (w.heap.size + 1) (w.heap.size + 1 + 1) (wb.heap.size + 1 + 1) (wb.heap.size + 1 + 1 + 1 + 1) (wb.heap.size + 1 + 1 + 1) tp (1 + tx) (1 + p1) (1 + p2) k x y (.slice none 0 0) 0 [] := by
          refine ⟨HB0.out.trans ((show Below wb.heap.size wb _ from (by repeat (first | with_reducible exact Below.refl _ _ | with_reducible assumption | with_reducible refine below_more' ?_ (by go_size) | with_reducible refine bel_alloc ?_ _ (by go_size) | with_reducible refine Below.drew ?_ | with_reducible refine Below.setCell ?_ (by go_size) _ | with_reducible refine below_drewN ?_ _))).mono hsz), HE.out.below (by repeat (first | with_reducible exact Below.refl _ _ | with_reducible assumption | with_reducible refine below_more' ?_ (by go_size) | with_reducible refine bel_alloc ?_ _ (by go_size) | with_reducible refine Below.drew ?_ | with_reducible refine Below.setCell ?_ (by go_size) _ | with_reducible refine below_drewN ?_ _)), HA1.out.below (by repeat (first | with_reducible exact Below.refl _ _ | with_reducible assumption | with_reducible refine below_more' ?_ (by go_size) | with_reducible refine bel_alloc ?_ _ (by go_size) | with_reducible refine Below.drew ?_ | with_reducible refine Below.setCell ?_ (by go_size) _ | with_reducible refine below_drewN ?_ _)), HA2.out.below (by repeat (first | with_reducible exact Below.refl _ _ | with_reducible assumption | with_reducible refine below_more' ?_ (by go_size) | with_reducible refine bel_alloc ?_ _ (by go_size) | with_reducible refine Below.drew ?_ | with_reducible refine Below.setCell ?_ (by go_size) _ | with_reducible refine below_drewN ?_ _)), ((AtB.new (by simp)).allocI _).allocI _, ?_, (HP.out.below HB0.out (Nat.le_refl _)).below (by repeat (first | with_reducible exact Below.refl _ _ | with_reducible assumption | with_reducible refine below_more' ?_ (by go_size) | with_reducible refine bel_alloc ?_ _ (by go_size) | with_reducible refine Below.drew ?_ | with_reducible refine Below.setCell ?_ (by go_size) _ | with_reducible refine below_drewN ?_ _)) (Nat.le_refl _)⟩
          refine ⟨by omega, by omega, by omega, by simp, ?_, ?_, ?_, World.ownsRow_nil _ _ _ _⟩
          · exact fun j u hu => (AtB.new (by simp)) j u (by match j, hu with | 0, hu => exact hu | 1, hu => exact hu | _ + 2, hu => cases hu)
          · exact frozen_of_row _ _ _ _ _ (by have h := heap_alloc_new ((((wb.alloc (.cells #[.int .i64 (1 + p1), .int .i64 1] 44)).alloc (.cells #[.int .i64 (1 + p2), .int .i64 2] 44)).alloc (.cells #[.int .i64 2, .int .i64 0, .int .i64 0, .string ⟨#[]⟩, .bool false, .int .i64 0, .int .i64 (1 + p1), .int .i64 1, .int .i64 0, .int .i64 0, .int .i64 0, .int .i64 0, .int .i64 0, .string ⟨#[]⟩, .int .i64 0, .int .i64 2, .int .i64 0, .int .i64 0, .string ⟨#[]⟩, .bool false, .int .i64 0, .int .i64 (1 + p2), .int .i64 2, .int .i64 0, .int .i64 0, .int .i64 0, .int .i64 0, .int .i64 0, .string ⟨#[]⟩, .int .i64 0, .int .i64 4, .int .i64 0, .int .i64 0, .string ⟨#[]⟩, .bool false, .int .i64 0, .int .i64 0, .int .i64 0, .int .i64 0, .int .i64 0, .int .i64 0, .int .i64 0, .int .i64 k, .string ⟨#[]⟩, .int .i64 0] 54)).alloc (.cells #[.int .i64 (1 + p1), .int .i64 1, .int .i64 x.tag, .int .i64 x.num, .string x.str, .bool x.is, .int .i64 x.code, .int .i64 (1 + p2), .int .i64 2, .int .i64 y.tag, .int .i64 y.num, .string y.str, .bool y.is, .int .i64 y.code] 46)) (.cells #[.slice (some ⟨wb.heap.size + 1 + 1 + 1, 0, none⟩) 2 2, .slice none 0 0, .bool false, .slice none 0 0] 62); simpa using h)
          · exact (AtB.new (by simp)).allocI _
        have H0 := Lib.hid h0
        clear h0
        go_wp2_with fail
        go_at_call 22
        refine (H0.out.work HL (Below.refl _ _) ⟨by omega, by omega, by decide, by decide⟩ ⟨by omega, by omega, by decide, by decide⟩ hk3 hk13 HX.out HY.out r HR.out 3 (by simp) (by decide)).mono ?_
        rintro e w2 ⟨rfl, ask2, na2, L2, hn2, hR2, hk2⟩
        have hsw := hk2.2.2.2.1
        simp only [alz] at hsw
        have HR2 := Lib.hid hR2
        clear hR2 hk2
        go_wp2
        go_meet
        exact ⟨trivial, w2.heap.size, ask2, na2, L2, rfl, by omega, by omega, HR2.out.below (by repeat (first | with_reducible exact Below.refl _ _ | with_reducible assumption | with_reducible refine below_more' ?_ (by go_size) | with_reducible refine bel_alloc ?_ _ (by go_size) | with_reducible refine Below.drew ?_ | with_reducible refine Below.setCell ?_ (by go_size) _ | with_reducible refine below_drewN ?_ _)), AtB.new rfl, fun e => by have := (HR2.out.src.own.lt _ e).2; omega⟩
      case rest =>
        obtain ⟨-, pv, asked, na, L, rfl, hpv, hna, hR, hv, hav⟩ := hcut
        go_at_K
        go_step
        refine parts_mid hR HL hv ?_ hav hna ?_ ?_ hk3 hk13 HX.out HY.out HR.out
        · have := HL.ht
          have := hR.src.lt
          omega
        · exact ⟨by omega, by omega, by decide, by decide⟩
        · exact ⟨by omega, by omega, by decide, by decide⟩
end Go.Proofs.YtegbhdeaicgpkaaGreatDoor
