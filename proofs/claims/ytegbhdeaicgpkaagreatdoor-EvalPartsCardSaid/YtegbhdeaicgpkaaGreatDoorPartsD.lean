/-
  EvalParts' last line: the two values alike, the operation at two other cells, and the law's lives.
-/
import Derived.Test.YtegbhdeaicgpkaaGreatDoorPartsA
import Derived.BigQuiet
import Derived.Deep.RegionHeld3
namespace Go.Proofs.YtegbhdeaicgpkaaGreatDoor
open Go Go.RowKit

/-- What follows the first statement; what follows n of them. -/
def sk : Code → Code
  | .seq _ b => b
  | c => c
def skN : Nat → Code → Code
  | 0, c => c
  | n + 1, c => skN n (sk c)
theorem find_near (x y : V) : findE [⟨20, 3, x⟩, ⟨4000, 200, y⟩] 20 3 = x := by simp [findE]
theorem find_far (x y : V) : findE [⟨20, 3, x⟩, ⟨4000, 200, y⟩] 4000 200 = y := by simp [findE]
/-- The worker at two cells that stand elsewhere. -/
theorem work_far {w wr : World} {B pe bn pt pc : Nat} {tp : Addr} {text k : Int} {x y r : V} (hb : Below w.heap.size w wr) (hE : AtB wr pe (evCells tp text)) (hN : AtB wr bn (flatC Nd.cells (pairN 20 3 4000 200 k))) (hS : Src wr B pt pc [⟨20, 3, x⟩, ⟨4000, 200, y⟩] (.slice none 0 0) 0 []) (hp : Pow10 wr)
    (h0 : w.heap.size ≤ pt) (n1 : pe ≠ pt) (n5 : bn ≠ pt) (hg : 3 ≠ pt) (h3 : 3 ≤ k) (h13 : k ≤ 13) (hx : Fits x) (hy : Fits y) (hr : twoG text k x y = r) (c : Nat) (hbn : bn < wr.heap.size) (X : World) (hX : Below wr.heap.size wr X) :
    Calls Tryz.prog 22 #[.pointer (some ⟨pe, 0, none⟩), .agg #[.slice (some ⟨bn, 0, none⟩) 3 c], .iface 56 (.pointer (some ⟨pt, 0, none⟩))] X fun e w' => e = .returned (Value.agg #[Value.int .i64 (r).tag, Value.int .i64 (r).num, Value.string (r).str, Value.bool (r).is, Value.int .i64 (r).code]) ∧ Below w.heap.size w w' ∧ (∀ p l, p ≠ pt → AtB wr p l → AtB w' p l) := by
  have hc := work_pair pe tp text [⟨20, 3, x⟩, ⟨4000, 200, y⟩] 20 3 4000 200 k ⟨by decide, by decide, by decide, by decide⟩ ⟨by decide, by decide, by decide, by decide⟩ h3 h13 (by rw [find_near]; exact hx) (by rw [find_far]; exact hy) (show 2 ≤ 1000000 by decide) bn c (bn + 1) B pt pc (.slice none 0 0) 0 [] X ⟨rfl, fun _ => ⟨bn, 0, rfl, Nat.lt_succ_self _, fun j u hu => by rw [Nat.zero_add]; exact (hN.below hX) j u hu⟩⟩ (hE.below hX) (hS.below hX) (by decide) n5 (by simp [Value.ownBlock]) n1 (by simp [Value.ownBlock]) (hp.below hX (Nat.le_refl _)) hg (by simp [Value.ownBlock])
  rw [find_near, find_far, hr] at hc
  refine hc.mono ?_
  rintro e w2 ⟨rfl, ask2, na2, L2, hs, hn2, hk, _⟩
  refine ⟨rfl, hk.base (hb.trans (hX.mono hb.size)) (Nat.le_refl _) h0 (fun q hq => by simp [Value.ownBlock] at hq), fun p l hp hl => ?_⟩
  exact atB_kept (hl.below hX) hk hp (by simp [Value.ownBlock])
set_option maxRecDepth 100000 in
set_option maxHeartbeats 2000000 in
theorem parts_last {w wr : World} {B pe pu pw pv bn pt pc : Nat} {tp : Addr} {text k : Int} {x y r u : V} (hb : Below w.heap.size w wr) (hE : AtB wr pe (evCells tp text)) (hu : AtB wr pu (vc u)) (hw : AtB wr pw (vc u)) (hv : AtB wr pv (vc r)) (hN : AtB wr bn (flatC Nd.cells (pairN 20 3 4000 200 k))) (hS : Src wr B pt pc [⟨20, 3, x⟩, ⟨4000, 200, y⟩] (.slice none 0 0) 0 []) (hp : Pow10 wr)
    (h0 : w.heap.size ≤ pt) (n1 : pe ≠ pt) (n2 : pv ≠ pt) (n3 : pu ≠ pt) (n4 : pw ≠ pt) (n5 : bn ≠ pt) (hg : 3 ≠ pt) (h3 : 3 ≤ k) (h13 : k ≤ 13) (hx : Fits x) (hy : Fits y) (hr : twoG text k x y = r) (hbn : bn < wr.heap.size)
    {u0 u1 u2 u3 u4 u5 u6 u7 u9 u10 u11 u12 u14 u17 u18 u21 u22 u23 u24 u25 u26 u27 u28 u29 u30 u31 u32 u33 u34 u35 u36 u37 u38 u39 u40 u41 u42 u43 u44 u45 u46 u47 u48 u49 u50 u51 u52 u53 u54 u55 u56 u57 u58 u59 u60 u61 u62 u63 u64 u65 u66 u67 u68 u69 u70 u71 u72 u73 u74 u75 u76 u77 u78 u79 u80 u81 u82 u83 u84 u85 u86 u87 u88 u89 u90 u91 u92 u93 u94 u95 u96 u97 u98 u99 u100 u101 u102 u103 u104 u105 u106 u107 u108 u109 u110 u111 u112 u113 u114 u115 u116 u117 u118 u119 u120 u121 u122 u123 u124 u125 u126 u127 u128 u129 u130 u131 u132 u133 u134 : Value} :
    Code.wp Tryz.prog (skN 24 (Tryz.f5.body.getD .skip)) (bodyPost Tryz.prog Tryz.f5 fun e w' => e = .returned (.bool true) ∧ Below w.heap.size w w') { tmps := #[u0, u1, u2, u3, u4, u5, u6, u7, .pointer (some ⟨pe, 0, none⟩), u9, u10, u11, u12, .pointer (some ⟨pv, 0, none⟩), u14, .pointer (some ⟨pu, 0, none⟩), .pointer (some ⟨pw, 0, none⟩), u17, u18, .slice (some ⟨bn, 0, none⟩) 3 3, .pointer (some ⟨pt, 0, none⟩), u21, u22, u23, u24, u25, u26, u27, u28, u29, u30, u31, u32, u33, u34, u35, u36, u37, u38, u39, u40, u41, u42, u43, u44, u45, u46, u47, u48, u49, u50, u51, u52, u53, u54, u55, u56, u57, u58, u59, u60, u61, u62, u63, u64, u65, u66, u67, u68, u69, u70, u71, u72, u73, u74, u75, u76, u77, u78, u79, u80, u81, u82, u83, u84, u85, u86, u87, u88, u89, u90, u91, u92, u93, u94, u95, u96, u97, u98, u99, u100, u101, u102, u103, u104, u105, u106, u107, u108, u109, u110, u111, u112, u113, u114, u115, u116, u117, u118, u119, u120, u121, u122, u123, u124, u125, u126, u127, u128, u129, u130, u131, u132, u133, u134], defers := [] } wr := by
  conv => arg 2; simp only [Tryz.f5, skN, sk, Option.getD_some]
  have HC := Lib.hid (@work_far w wr B pe bn pt pc tp text k x y r hb hE hN hS hp h0 n1 n5 hg h3 h13 hx hy hr 3 hbn)
  have a0 := hu 0 _ rfl
  have a1 := hu 1 _ rfl
  have a2 := hu 2 _ rfl
  have a3 := hu 3 _ rfl
  have a4 := hu 4 _ rfl
  have b0 := hw 0 _ rfl
  have b1 := hw 1 _ rfl
  have b2 := hw 2 _ rfl
  have b3 := hw 3 _ rfl
  have b4 := hw 4 _ rfl
  have c0 := hv 0 _ rfl
  have c1 := hv 1 _ rfl
  have c2 := hv 2 _ rfl
  have c3 := hv 3 _ rfl
  have c4 := hv 4 _ rfl
  have HV := Lib.hid hv
  have NV := Lib.hid n2
  have HU := Lib.hid hu
  have NU := Lib.hid n3
  have HW := Lib.hid hw
  have NW := Lib.hid n4
  have hq1 := eq_self u
  have hq2 := eq_self r
  clear hb hE hu hw hv hN hS hp h0 n1 n2 n3 n4 n5 hg h3 h13 hx hy hr hbn
  go_wp2_with fail
  go_region_held3 (fun w' => w'.cell? ⟨pv, 0, none⟩ = some (.int .i64 r.tag) ∧ w'.cell? ⟨pv, 1, none⟩ = some (.int .i64 r.num) ∧ w'.cell? ⟨pv, 2, none⟩ = some (.string r.str) ∧ w'.cell? ⟨pv, 3, none⟩ = some (.bool r.is) ∧ w'.cell? ⟨pv, 4, none⟩ = some (.int .i64 r.code) ∧ w'.cell? ⟨pu, 0, none⟩ = some (.int .i64 u.tag) ∧ w'.cell? ⟨pu, 1, none⟩ = some (.int .i64 u.num) ∧ w'.cell? ⟨pu, 2, none⟩ = some (.string u.str) ∧ w'.cell? ⟨pu, 3, none⟩ = some (.bool u.is) ∧ w'.cell? ⟨pu, 4, none⟩ = some (.int .i64 u.code) ∧ w'.cell? ⟨pw, 0, none⟩ = some (.int .i64 u.tag) ∧ w'.cell? ⟨pw, 1, none⟩ = some (.int .i64 u.num) ∧ w'.cell? ⟨pw, 2, none⟩ = some (.string u.str) ∧ w'.cell? ⟨pw, 3, none⟩ = some (.bool u.is) ∧ w'.cell? ⟨pw, 4, none⟩ = some (.int .i64 u.code))
    (first | (go_keep; done) | (go_split_ands; refine ⟨?_, ?_, ?_, ?_, ?_, ?_, ?_, ?_, ?_, ?_, ?_, ?_, ?_, ?_, ?_⟩ <;> (repeat (first | assumption | with_reducible refine cell_moreJ ?_ _ _ | with_reducible refine cell_allocJ ?_ _ | with_reducible refine cell_drewJ ?_))))
    (first
      | (go_at_call 22; refine (HC.out _ (by repeat (first | with_reducible exact Below.refl _ _ | with_reducible assumption | with_reducible refine below_more' ?_ (by go_size) | with_reducible refine bel_alloc ?_ _ (by go_size) | with_reducible refine Below.drew ?_ | with_reducible refine Below.setCell ?_ (by go_size) _ | with_reducible refine below_drewN ?_ _))).mono ?_; rintro e w2 ⟨rfl, hb2, hk2⟩; have d := hk2 pv _ NV.out HV.out; have d0 := d 0 _ rfl; have d1 := d 1 _ rfl; have d2 := d 2 _ rfl; have d3 := d 3 _ rfl; have d4 := d 4 _ rfl; have f := hk2 pu _ NU.out HU.out; have f0 := f 0 _ rfl; have f1 := f 1 _ rfl; have f2 := f 2 _ rfl; have f3 := f 3 _ rfl; have f4 := f 4 _ rfl; have g := hk2 pw _ NW.out HW.out; have g0 := g 0 _ rfl; have g1 := g 1 _ rfl; have g2 := g 2 _ rfl; have g3 := g 3 _ rfl; have g4 := g 4 _ rfl; have hs2 := hb2.size; clear d f g hk2)
      | (go_at_call 19; refine (lives0 _).mono ?_; rintro e w1 ⟨rfl, hb⟩; obtain ⟨l, m, rfl⟩ := more_of_below hb; clear hb))
  all_goals go_wp2
  all_goals go_ret
  all_goals exact ⟨rfl, (by repeat (first | with_reducible exact Below.refl _ _ | with_reducible assumption | with_reducible refine below_more' ?_ (by go_size) | with_reducible refine bel_alloc ?_ _ (by go_size) | with_reducible refine Below.drew ?_ | with_reducible refine Below.setCell ?_ (by go_size) _ | with_reducible refine below_drewN ?_ _))⟩
end Go.Proofs.YtegbhdeaicgpkaaGreatDoor
