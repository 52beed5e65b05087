/-
  Parts of a proof: OpenV.
-/
import Derived.Test.YtegbhdeaicgpkaaGreatDoorJ05
import Derived.Test.YtegbhdeaicgpkaaGreatDoorJ35
import Derived.Test.YtegbhdeaicgpkaaGreatDoorJ04
import Derived.Test.YtegbhdeaicgpkaaGreatDoorJ02
import Derived.LaidSub
import Derived.Lib.LaidTab
set_option linter.all false
namespace Go.Proofs.YtegbhdeaicgpkaaGreatDoor
open Go.ChangeShapes Go.WideShapes Go.ChangeAt Go.RowKit
set_option maxRecDepth 100000
def datW {H : Type} (v : V) : DataW H := .agg [.lit (.int .i64 v.tag), .lit (.int .i64 v.num), .lit (.string v.str.data.toList), .lit (.bool v.is), .lit (.int .i64 v.code)]
theorem wf_W {n : Int} (h : (Lit.int .i64 n).wf = true) : Is64 n := by
  simp only [Lit.wf, Bool.and_eq_true, decide_eq_true_eq] at h
  exact ⟨h.1, h.2⟩
theorem open_valW {H : Type} {enc : TypeId × Value → H} {w : World} {base : Nat} {spare : Nat → Bool} {held : Bool} {n : Nat} {cs : List Value} {y : DataW H × List MemPlace}
    (h : DataW.trod enc Tryz.prog w base spare held n 29 cs = some y) : ∃ v : V, cs = v.cells ∧ Is64 v.num ∧ y = (datW v, []) := by
  obtain ⟨xs, m, -, hx, hl, hlen, hg⟩ := DataW.trod_struct Tryz.underlying29 h
  have hc : Tryz.prog.cellsOf 29 = 5 := by kernel_rfl
  have h1 : Tryz.prog.cellsOf 26 = 1 := by kernel_rfl
  have h2 : Tryz.prog.cellsOf 2 = 1 := by kernel_rfl
  have h3 : Tryz.prog.cellsOf 9 = 1 := by kernel_rfl
  have h4 : Tryz.prog.cellsOf 4 = 1 := by kernel_rfl
  have h5 : Tryz.prog.cellsOf 27 = 1 := by kernel_rfl
  rw [hc] at hl
  match cs, hl, xs, hlen with
  | [c0, c1, c2, c3, c4], _, [x0, x1, x2, x3, x4], _ =>
    have g0 := hg 0 _ rfl
    have g1 := hg 1 _ rfl
    have g2 := hg 2 _ rfl
    have g3 := hg 3 _ rfl
    have g4 := hg 4 _ rfl
    simp only [h1, h2, h3, h4, h5, List.drop, List.take, List.getElem?_cons_zero, List.getElem?_cons_succ] at g0 g1 g2 g3 g4
    obtain ⟨n0, e0, z0, -⟩ := DataW.trod_int Tryz.underlying26 g0
    obtain ⟨n1, e1, z1, hw⟩ := DataW.trod_int Tryz.underlying2 g1
    obtain ⟨s, e2, z2, -⟩ := DataW.trod_string Tryz.underlying9 g2
    obtain ⟨b, e3, z3⟩ := DataW.trod_bool Tryz.underlying4 g3
    obtain ⟨n4, e4, z4, -⟩ := DataW.trod_int Tryz.underlying27 g4
    cases e0; cases e1; cases e2; cases e3; cases e4
    subst z0; subst z1; subst z2; subst z3; subst z4
    exact ⟨⟨n0, n1, s, b, n4⟩, rfl, wf_W hw, hx⟩
theorem pow10_laid {l : List (String × DataW Unit)} {W : World} (hl : (l.filter fun x => x.2.handleName?.isNone).filter (fun x => x.1 == "internal/strconv.uint64pow10") = [("internal/strconv.uint64pow10", Lib.tabData .u64 Lib.pow10Tab)]) (h : laidMetH Tryz.prog l W) : Pow10 W := by
  have h2 := laidMet.filter (fun x => x.1 == "internal/strconv.uint64pow10") (laidMetH_iff.1 h).1
  rw [hl] at h2
  exact Lib.tabIs_of_head (g := 3) (e := 157) (by kernel_rfl) (by kernel_rfl) Tryz.underlying317 Tryz.underlying157 (by kernel_rfl) (by kernel_rfl) h2
end Go.Proofs.YtegbhdeaicgpkaaGreatDoor
