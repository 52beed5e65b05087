/-
  EvalParts behind its first call of the worker: the formula twice, compared with itself.
-/
import Derived.Test.YtegbhdeaicgpkaaGreatDoorPartsT
namespace Go.Proofs.YtegbhdeaicgpkaaGreatDoor
open Go Go.RowKit

set_option maxRecDepth 100000 in
set_option maxHeartbeats 2000000 in
theorem parts_mid {w wr : World} {B pe px py bl pt pc pv : Nat} {tp : Addr} {text r1 r2 k : Int} {x y r : V} {asked : Value} {na : Nat} {L : List Value} (hR : PRel w wr B pe px py bl pt pc tp text r1 r2 k x y asked na L) (hl : PLie w B pe px py bl pt) (hv : AtB wr pv (vc r)) (hpv : pv ≠ pt) (hav : asked.ownBlock ≠ some pv) (hna : na ≤ 3)
    (hr1 : Cell1 r1 1) (hr2 : Cell1 r2 2) (h3 : 3 ≤ k) (h13 : k ≤ 13) (hx : Fits x) (hy : Fits y) (hr : twoG text k x y = r)
    {u0 u1 u2 u5 u6 u9 u10 u14 u15 u16 u17 u18 u19 u20 u21 u22 u23 u24 u25 u26 u27 u28 u29 u30 u31 u32 u33 u34 u35 u36 u37 u38 u39 u40 u41 u42 u43 u44 u45 u46 u47 u48 u49 u50 u51 u52 u53 u54 u55 u56 u57 u58 u59 u60 u61 u62 u63 u64 u65 u66 u67 u68 u69 u70 u71 u72 u73 u74 u75 u76 u77 u78 u79 u80 u81 u82 u83 u84 u85 u86 u87 u88 u89 u90 u91 u92 u93 u94 u95 u96 u97 u98 u99 u100 u101 u102 u103 u104 u105 u106 u107 u108 u109 u110 u111 u112 u113 u114 u115 u116 u117 u118 u119 u120 u121 u122 u123 u124 u125 u126 u127 u128 u129 u130 u131 u132 u133 u134 : Value} :
    Code.wp Tryz.prog (skN 14 (Tryz.f5.body.getD .skip)) (bodyPost Tryz.prog Tryz.f5 fun e w' => e = .returned (.bool true) ∧ Below w.heap.size w w') { tmps := #[u0, u1, u2, .pointer (some ⟨px, 0, none⟩), .pointer (some ⟨py, 0, none⟩), u5, u6, .int .i64 k, .pointer (some ⟨pe, 0, none⟩), u9, u10, .slice (some ⟨bl, 0, none⟩) 3 3, .pointer (some ⟨pt, 0, none⟩), .pointer (some ⟨pv, 0, none⟩), u14, u15, u16, u17, u18, u19, u20, u21, u22, u23, u24, u25, u26, u27, u28, u29, u30, u31, u32, u33, u34, u35, u36, u37, u38, u39, u40, u41, u42, u43, u44, u45, u46, u47, u48, u49, u50, u51, u52, u53, u54, u55, u56, u57, u58, u59, u60, u61, u62, u63, u64, u65, u66, u67, u68, u69, u70, u71, u72, u73, u74, u75, u76, u77, u78, u79, u80, u81, u82, u83, u84, u85, u86, u87, u88, u89, u90, u91, u92, u93, u94, u95, u96, u97, u98, u99, u100, u101, u102, u103, u104, u105, u106, u107, u108, u109, u110, u111, u112, u113, u114, u115, u116, u117, u118, u119, u120, u121, u122, u123, u124, u125, u126, u127, u128, u129, u130, u131, u132, u133, u134], defers := [] } wr := by
  conv => arg 2; simp only [Tryz.f5, skN, sk, Option.getD_some]
  conv => arg 4; dsimp only
  have HR := Lib.hid hR
  have HL := Lib.hid hl
  have HV := Lib.hid hv
  have HX := Lib.hid hx
  have HY := Lib.hid hy
  have HE := Lib.hid hr
  have H3 := Lib.hid h3
  have H13 := Lib.hid h13
  have H1 := Lib.hid hr1
  have H2 := Lib.hid hr2
  have HPV := Lib.hid hpv
  have HAV := Lib.hid hav
  have HNA := Lib.hid hna
  have lbl := cell_ltJ (hR.nl 0 _ rfl)
  clear hR hl hv hx hy hr h3 h13 hr1 hr2 hpv hav hna
  obtain ⟨i0, hi, hz0, hz1, hz2⟩ := info_parts info_N
  obtain ⟨w2, hw2⟩ : ∃ w2, w2 = wr := ⟨_, rfl⟩
  subst hw2
  go_upto_region 16 with fail
  go_cut [14] (fun s14 wx => StkRel w2 wx 54 15 s14 3 ([] ++ flatC Nd.cells (pairN r1 1 r2 2 k)))
  case first =>
    go_wp2_with (at_builtin; refine wpList_append_lies _ rfl _ _ 55 rfl w2.heap.size 54 i0 _ 15 136 Tryz.underlying55 hi hz0 hz1 hz2 (by rfl) (by decide) _ 0 _ (by rfl) (owns_empty w2 _ (Nat.le_refl _)) _ 3 3 (flatC Nd.cells (pairN r1 1 r2 2 k)) (by rfl) (by rfl) (at_add ((HR.out.below (show Below w2.heap.size w2 (w2.alloc _) from (by repeat (first | with_reducible exact Below.refl _ _ | with_reducible assumption | with_reducible refine below_more' ?_ (by go_size) | with_reducible refine bel_alloc ?_ _ (by go_size) | with_reducible refine Below.drew ?_ | with_reducible refine Below.setCell ?_ (by go_size) _ | with_reducible refine below_drewN ?_ _)))).nl)) (nodes_one _) (by decide) (by decide) (by decide) (by simp) _ rfl ?_; intro g cap w3 hown hgrow hat hlt3; have HS := Lib.hid (show StkRel w2 w3 54 15 (.slice (some ⟨g, 0, none⟩) 3 cap) 3 ([] ++ flatC Nd.cells (pairN r1 1 r2 2 k)) from StkRel.step (v := .slice (some ⟨w2.heap.size, 0, none⟩) 0 0) ⟨(show Below w2.heap.size w2 (w2.alloc (.cells #[] 54)) from (by repeat (first | with_reducible exact Below.refl _ _ | with_reducible assumption | with_reducible refine below_more' ?_ (by go_size) | with_reducible refine bel_alloc ?_ _ (by go_size) | with_reducible refine Below.drew ?_ | with_reducible refine Below.setCell ?_ (by go_size) _ | with_reducible refine below_drewN ?_ _))), owns_empty w2 _ (Nat.le_refl _)⟩ (Below.refl _ _) hown hgrow); clear hown hgrow hat)
    go_meet
    exact HS.out
  case rest =>
    have HS1 := Lib.hid hcut
    clear hcut
    obtain ⟨wd, hwd⟩ : ∃ wd, wd = wc := ⟨_, rfl⟩
    subst hwd
    go_upto_region 17 with fail
    go_cut [14] (fun s14 wx => StkRel w2 wx 54 15 s14 6 (([] ++ flatC Nd.cells (pairN r1 1 r2 2 k)) ++ flatC Nd.cells (pairN r1 1 r2 2 k)))
    case first =>
      go_wp2_with (at_builtin; refine wpList_append_lies _ rfl _ _ 55 rfl w2.heap.size 54 i0 _ 15 136 Tryz.underlying55 hi hz0 hz1 hz2 (by rfl) (by decide) _ 3 _ (by rfl) (HS1.out.2) _ 3 3 (flatC Nd.cells (pairN r1 1 r2 2 k)) (by rfl) (by rfl) (at_add ((HR.out.below HS1.out.1).nl)) (nodes_one _) (by decide) (by decide) (by decide) (by have := HS1.out.1.size; omega) _ rfl ?_; intro g cap w3 hown hgrow hat hlt3; have HS := Lib.hid (StkRel.step HS1.out (Below.refl _ _) hown hgrow); clear hown hgrow hat)
      go_meet
      exact HS.out
    case rest =>
      have HS2 := Lib.hid hcut
      clear hcut HS1
      obtain ⟨we, hwe⟩ : ∃ we, we = wc := ⟨_, rfl⟩
      subst hwe
      go_upto_region 18 with fail
      go_cut [14] (fun s14 wx => StkRel w2 wx 54 15 s14 7 (([] ++ flatC Nd.cells (pairN r1 1 r2 2 k)) ++ flatC Nd.cells (pairN r1 1 r2 2 k) ++ flatC Nd.cells [Nd.opn 8]))
      case first =>
        go_wp2_with (at_builtin; refine wpList_append_lies _ rfl _ _ 55 rfl w2.heap.size 54 i0 _ 15 136 Tryz.underlying55 hi hz0 hz1 hz2 (by rfl) (by decide) _ 6 _ (by rfl) (stk_below HS2.out.2 (by repeat (first | with_reducible exact Below.refl _ _ | with_reducible assumption | with_reducible refine below_more' ?_ (by go_size) | with_reducible refine bel_alloc ?_ _ (by go_size) | with_reducible refine Below.drew ?_ | with_reducible refine Below.setCell ?_ (by go_size) _ | with_reducible refine below_drewN ?_ _))) _ 1 1 (flatC Nd.cells [Nd.opn 8]) (by rfl) (by rfl) (by exact fun i u hu => stk_fresh rfl i u hu) (nodes_one _) (by decide) (by decide) (by decide) (by have := HS2.out.1.size; simp; omega) _ rfl ?_; intro g cap w3 hown hgrow hat hlt3; have HS := Lib.hid (StkRel.step HS2.out (by repeat (first | with_reducible exact Below.refl _ _ | with_reducible assumption | with_reducible refine below_more' ?_ (by go_size) | with_reducible refine bel_alloc ?_ _ (by go_size) | with_reducible refine Below.drew ?_ | with_reducible refine Below.setCell ?_ (by go_size) _ | with_reducible refine below_drewN ?_ _)) hown hgrow); clear hown hgrow hat)
        go_meet
        exact HS.out
      case rest =>
        rw [twice_cells] at hcut
        obtain ⟨hB, hO⟩ := hcut
        obtain ⟨g, cp, rfl, hg1, hg2, hg3, hg4, hg5, hg6⟩ := stk_form hO (by decide)
        have HB := Lib.hid hB
        have HG := Lib.hid hg5
        have hle := HR.out.src.le
        have hlb := HR.out.src.lt
        have hrow : asked.ownBlock ≠ some g := fun e => by have := (HR.out.src.own.lt _ e).2; omega
        have HRW := Lib.hid hrow
        have hsz := hB.size
        clear hB hO hg1 hg2 hg5 hg6 HS2 hrow
        go_upto_region 19 with fail
        go_cut [15] (fun s15 wx => s15 = s15 ∧ ∃ pu ask na L, s15 = .pointer (some ⟨pu, 0, none⟩) ∧ PRel w wx B pe px py bl pt pc tp text r1 r2 k x y ask na L ∧ AtB wx pv (vc r) ∧ AtB wx pu (vc (wantX r)))
        case first =>
          go_wp2_with fail
          go_at_call 22
          refine (HR.out.twice HL.out HB.out H1.out H2.out H3.out H13.out HX.out HY.out r HE.out g cp (g + 1) (by omega) HRW.out ⟨rfl, fun _ => ⟨g, 0, rfl, Nat.lt_succ_self _, fun j u hu => by rw [Nat.zero_add]; exact HG.out j u hu⟩⟩ (by have := HNA.out; omega)).mono ?_
          rintro e w4 ⟨rfl, ask4, na4, L4, hn4, hR4, hk4⟩
          have hv4 := atB_kept (HV.out.below HB.out) hk4 HPV.out HAV.out
          have HR4 := Lib.hid hR4
          have HV4 := Lib.hid hv4
          clear hR4 hk4 hv4
          go_wp2
          go_meet
          exact ⟨trivial, w4.heap.size, ask4, na4, L4, rfl, HR4.out.below (by repeat (first | with_reducible exact Below.refl _ _ | with_reducible assumption | with_reducible refine below_more' ?_ (by go_size) | with_reducible refine bel_alloc ?_ _ (by go_size) | with_reducible refine Below.drew ?_ | with_reducible refine Below.setCell ?_ (by go_size) _ | with_reducible refine below_drewN ?_ _)), HV4.out.below (by repeat (first | with_reducible exact Below.refl _ _ | with_reducible assumption | with_reducible refine below_more' ?_ (by go_size) | with_reducible refine bel_alloc ?_ _ (by go_size) | with_reducible refine Below.drew ?_ | with_reducible refine Below.setCell ?_ (by go_size) _ | with_reducible refine below_drewN ?_ _)), AtB.new rfl⟩
        case rest =>
          obtain ⟨-, pu, ask4, na4, L4, rfl, hR4, hV4, hU4⟩ := hcut
          go_at_K
          go_step
          exact parts_want hR4 HL.out hV4 hU4 H3.out H13.out HX.out HY.out HE.out
end Go.Proofs.YtegbhdeaicgpkaaGreatDoor
