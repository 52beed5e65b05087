/-
  EvalParts behind its two calls of the worker: what the second should be, and two cells that stand elsewhere.
-/
import Derived.Test.YtegbhdeaicgpkaaGreatDoorPartsD
namespace Go.Proofs.YtegbhdeaicgpkaaGreatDoor
open Go Go.RowKit

theorem frozen_new {w : World} {cs : Array Value} {t : TypeId} {p i : Nat} (hp : p = w.heap.size) : (w.alloc (.cells cs t)).frozen? ⟨p, i, none⟩ = false := by
  subst hp
  exact frozen_of_row _ _ _ _ _ (heap_alloc_new w _)
set_option maxRecDepth 100000 in
set_option maxHeartbeats 2000000 in
theorem parts_want {w wr : World} {B pe px py bl pt pc pv pu : Nat} {tp : Addr} {text r1 r2 k : Int} {x y r : V} {asked : Value} {na : Nat} {L : List Value} (hR : PRel w wr B pe px py bl pt pc tp text r1 r2 k x y asked na L) (hl : PLie w B pe px py bl pt) (hv : AtB wr pv (vc r)) (hu : AtB wr pu (vc (wantX r)))
    (h3 : 3 ≤ k) (h13 : k ≤ 13) (hx : Fits x) (hy : Fits y) (hr : twoG text k x y = r)
    {u0 u1 u2 u5 u6 u9 u10 u11 u12 u14 u16 u17 u18 u19 u20 u21 u22 u23 u24 u25 u26 u27 u28 u29 u30 u31 u32 u33 u34 u35 u36 u37 u38 u39 u40 u41 u42 u43 u44 u45 u46 u47 u48 u49 u50 u51 u52 u53 u54 u55 u56 u57 u58 u59 u60 u61 u62 u63 u64 u65 u66 u67 u68 u69 u70 u71 u72 u73 u74 u75 u76 u77 u78 u79 u80 u81 u82 u83 u84 u85 u86 u87 u88 u89 u90 u91 u92 u93 u94 u95 u96 u97 u98 u99 u100 u101 u102 u103 u104 u105 u106 u107 u108 u109 u110 u111 u112 u113 u114 u115 u116 u117 u118 u119 u120 u121 u122 u123 u124 u125 u126 u127 u128 u129 u130 u131 u132 u133 u134 : Value} :
    Code.wp Tryz.prog (skN 18 (Tryz.f5.body.getD .skip)) (bodyPost Tryz.prog Tryz.f5 fun e w' => e = .returned (.bool true) ∧ Below w.heap.size w w') { tmps := #[u0, u1, u2, .pointer (some ⟨px, 0, none⟩), .pointer (some ⟨py, 0, none⟩), u5, u6, .int .i64 k, .pointer (some ⟨pe, 0, none⟩), u9, u10, u11, u12, .pointer (some ⟨pv, 0, none⟩), u14, .pointer (some ⟨pu, 0, none⟩), u16, u17, u18, u19, u20, u21, u22, u23, u24, u25, u26, u27, u28, u29, u30, u31, u32, u33, u34, u35, u36, u37, u38, u39, u40, u41, u42, u43, u44, u45, u46, u47, u48, u49, u50, u51, u52, u53, u54, u55, u56, u57, u58, u59, u60, u61, u62, u63, u64, u65, u66, u67, u68, u69, u70, u71, u72, u73, u74, u75, u76, u77, u78, u79, u80, u81, u82, u83, u84, u85, u86, u87, u88, u89, u90, u91, u92, u93, u94, u95, u96, u97, u98, u99, u100, u101, u102, u103, u104, u105, u106, u107, u108, u109, u110, u111, u112, u113, u114, u115, u116, u117, u118, u119, u120, u121, u122, u123, u124, u125, u126, u127, u128, u129, u130, u131, u132, u133, u134], defers := [] } wr := by
  conv => arg 2; simp only [Tryz.f5, skN, sk, Option.getD_some]
  have x0 := hR.sx 0 _ rfl
  have x1 := hR.sx 1 _ rfl
  have x2 := hR.sx 2 _ rfl
  have x3 := hR.sx 3 _ rfl
  have x4 := hR.sx 4 _ rfl
  have y0 := hR.sy 0 _ rfl
  have y1 := hR.sy 1 _ rfl
  have y2 := hR.sy 2 _ rfl
  have y3 := hR.sy 3 _ rfl
  have y4 := hR.sy 4 _ rfl
  have v0 := hv 0 _ rfl
  have v1 := hv 1 _ rfl
  have v2 := hv 2 _ rfl
  have v3 := hv 3 _ rfl
  have v4 := hv 4 _ rfl
  have lx := cell_ltJ x0
  have ly := cell_ltJ y0
  have lv := cell_ltJ v0
  have lx1 : px < wr.heap.size + 1 := by omega
  have lx2 : px < wr.heap.size + 1 + 1 := by omega
  have lx3 : px < wr.heap.size + 1 + 1 + 1 := by omega
  have lx4 : px < wr.heap.size + 1 + 1 + 1 + 1 := by omega
  have lx5 : px < wr.heap.size + 1 + 1 + 1 + 1 + 1 := by omega
  have ly1 : py < wr.heap.size + 1 := by omega
  have ly2 : py < wr.heap.size + 1 + 1 := by omega
  have ly3 : py < wr.heap.size + 1 + 1 + 1 := by omega
  have ly4 : py < wr.heap.size + 1 + 1 + 1 + 1 := by omega
  have ly5 : py < wr.heap.size + 1 + 1 + 1 + 1 + 1 := by omega
  have lv1 : pv < wr.heap.size + 1 := by omega
  have lv2 : pv < wr.heap.size + 1 + 1 := by omega
  have lv3 : pv < wr.heap.size + 1 + 1 + 1 := by omega
  have lv4 : pv < wr.heap.size + 1 + 1 + 1 + 1 := by omega
  have lv5 : pv < wr.heap.size + 1 + 1 + 1 + 1 + 1 := by omega
  have HR := Lib.hid hR
  have HL := Lib.hid hl
  have HV := Lib.hid hv
  have HU := Lib.hid hu
  have HX := Lib.hid hx
  have HY := Lib.hid hy
  have HE := Lib.hid hr
  have H3 := Lib.hid h3
  have H13 := Lib.hid h13
  clear hR hl hv hu hx hy hr h3 h13
  by_cases ht : r.tag = 4
  · have k1 : (r.tag == 4) = true := by simp [ht]
    have HW := Lib.hid (show wantX r = r from if_pos ht)
    clear ht
    go_upto_region 26 with fail
    go_cut [20] (fun s20 wx => s20 = .pointer (some ⟨wr.heap.size + 1 + 1 + 1 + 1 + 1, 0, none⟩) ∧ Below wr.heap.size wr wx ∧ AtB wx wr.heap.size (vc (r)) ∧ AtB wx (wr.heap.size + 1 + 1 + 1) (flatC Nd.cells (pairN 20 3 4000 200 k)) ∧ Src wx (wr.heap.size + 1 + 1 + 1 + 1 + 1 + 1) (wr.heap.size + 1 + 1 + 1 + 1 + 1) (wr.heap.size + 1 + 1 + 1 + 1) [⟨20, 3, x⟩, ⟨4000, 200, y⟩] (.slice none 0 0) 0 [] ∧ wr.heap.size + 1 + 1 + 1 < wx.heap.size)
    case first =>
      go_wp2_with fail
      go_meet
      refine ⟨rfl, (by repeat (first | with_reducible exact Below.refl _ _ | with_reducible assumption | with_reducible refine below_more' ?_ (by go_size) | with_reducible refine bel_alloc ?_ _ (by go_size) | with_reducible refine Below.drew ?_ | with_reducible refine Below.setCell ?_ (by go_size) _ | with_reducible refine below_drewN ?_ _)), ?_, ?_, ?_, by simp⟩
      · exact (((((AtB.new rfl).allocI _).allocI _).allocI _).allocI _).allocI _
      · exact ((AtB.new (by simp)).allocI _).allocI _
      · exact ⟨by omega, by omega, by omega, by simp, fun j u hu => (AtB.new (by simp)) j u (by match j, hu with | 0, hu => exact hu | 1, hu => exact hu | _ + 2, hu => cases hu), frozen_new (by simp), (AtB.new (by simp)).allocI _, World.ownsRow_nil _ _ _ _⟩
    case rest =>
      obtain ⟨rfl, hB1, hW1, hN1, hS1, hs1⟩ := hcut
      have hB := HR.out.base
      have hsz : w.heap.size ≤ wr.heap.size := hB.size
      have hle := HR.out.src.le
      have hlb := HR.out.src.lt
      have hbB := HL.out.hB
      have hhp := HL.out.hp
      have lu := cell_ltJ (HU.out 0 _ rfl)
      have le := cell_ltJ (HR.out.ev 0 _ rfl)
      have hU1 := HU.out
      rw [HW.out] at hU1
      go_at_K
      go_step
      exact parts_last (hB.trans (hB1.mono hsz)) (HR.out.ev.below hB1) (hU1.below hB1) hW1 (HV.out.below hB1) hN1 hS1 (HR.out.pw.below hB1 (Nat.le_refl _)) (by omega) (by omega) (by omega) (by omega) (by omega) (by omega) (by omega) H3.out H13.out HX.out HY.out HE.out hs1
  · have k1 : (r.tag == 4) = false := by simp [ht]
    have HW := Lib.hid (show wantX r = truthG true from if_neg ht)
    clear ht
    go_upto_region 26 with fail
    go_cut [20] (fun s20 wx => s20 = .pointer (some ⟨wr.heap.size + 1 + 1 + 1 + 1 + 1, 0, none⟩) ∧ Below wr.heap.size wr wx ∧ AtB wx wr.heap.size (vc (truthG true)) ∧ AtB wx (wr.heap.size + 1 + 1 + 1) (flatC Nd.cells (pairN 20 3 4000 200 k)) ∧ Src wx (wr.heap.size + 1 + 1 + 1 + 1 + 1 + 1) (wr.heap.size + 1 + 1 + 1 + 1 + 1) (wr.heap.size + 1 + 1 + 1 + 1) [⟨20, 3, x⟩, ⟨4000, 200, y⟩] (.slice none 0 0) 0 [] ∧ wr.heap.size + 1 + 1 + 1 < wx.heap.size)
    case first =>
      go_wp2_with fail
      go_meet
      refine ⟨rfl, (by repeat (first | with_reducible exact Below.refl _ _ | with_reducible assumption | with_reducible refine below_more' ?_ (by go_size) | with_reducible refine bel_alloc ?_ _ (by go_size) | with_reducible refine Below.drew ?_ | with_reducible refine Below.setCell ?_ (by go_size) _ | with_reducible refine below_drewN ?_ _)), ?_, ?_, ?_, by simp⟩
      · exact (((((AtB.new rfl).allocI _).allocI _).allocI _).allocI _).allocI _
      · exact ((AtB.new (by simp)).allocI _).allocI _
      · exact ⟨by omega, by omega, by omega, by simp, fun j u hu => (AtB.new (by simp)) j u (by match j, hu with | 0, hu => exact hu | 1, hu => exact hu | _ + 2, hu => cases hu), frozen_new (by simp), (AtB.new (by simp)).allocI _, World.ownsRow_nil _ _ _ _⟩
    case rest =>
      obtain ⟨rfl, hB1, hW1, hN1, hS1, hs1⟩ := hcut
      have hB := HR.out.base
      have hsz : w.heap.size ≤ wr.heap.size := hB.size
      have hle := HR.out.src.le
      have hlb := HR.out.src.lt
      have hbB := HL.out.hB
      have hhp := HL.out.hp
      have lu := cell_ltJ (HU.out 0 _ rfl)
      have le := cell_ltJ (HR.out.ev 0 _ rfl)
      have hU1 := HU.out
      rw [HW.out] at hU1
      go_at_K
      go_step
      exact parts_last (hB.trans (hB1.mono hsz)) (HR.out.ev.below hB1) (hU1.below hB1) hW1 (HV.out.below hB1) hN1 hS1 (HR.out.pw.below hB1 (Nat.le_refl _)) (by omega) (by omega) (by omega) (by omega) (by omega) (by omega) (by omega) H3.out H13.out HX.out HY.out HE.out hs1
end Go.Proofs.YtegbhdeaicgpkaaGreatDoor
