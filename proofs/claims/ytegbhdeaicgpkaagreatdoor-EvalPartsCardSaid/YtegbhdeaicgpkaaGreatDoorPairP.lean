/-
  The argument of the laws over two values, opened: its parts, how great they can be; the library's table of powers, as the row lays it.
-/
import Derived.Test.YtegbhdeaicgpkaaGreatDoorTop
import Derived.Test.YtegbhdeaicgpkaaGreatDoorFmt
import Derived.Test.YtegbhdeaicgpkaaGreatDoorTurnA
import Derived.LaidSub
import Derived.Lib.LaidTab
namespace Go.Proofs.YtegbhdeaicgpkaaGreatDoor
open Go.ChangeShapes Go.WideShapes Go.ChangeAt Go.RowKit
set_option maxRecDepth 100000

/-- A value's datum. -/
def datV {H : Type} (v : V) : DataW H := .agg [.lit (.int .i64 v.tag), .lit (.int .i64 v.num), .lit (.string v.str.data.toList), .lit (.bool v.is), .lit (.int .i64 v.code)]
theorem wf_64 {n : Int} (h : (Lit.int .i64 n).wf = true) : Is64 n := by
  simp only [Lit.wf, Bool.and_eq_true, decide_eq_true_eq] at h
  exact ⟨h.1, h.2⟩
theorem open_val {H : Type} {enc : TypeId × Value → H} {w : World} {base : Nat} {spare : Nat → Bool} {held : Bool} {n : Nat} {cs : List Value} {y : DataW H × List MemPlace}
    (h : DataW.trod enc Tryz.prog w base spare held n 29 cs = some y) : ∃ v : V, cs = vc v ∧ Is64 v.num ∧ y = (datV v, []) := by
  obtain ⟨xs, m, -, hx, hl, hlen, hg⟩ := DataW.trod_struct Tryz.underlying29 h
  have hc : Tryz.prog.cellsOf 29 = 5 := by kernel_rfl
  have h1 : Tryz.prog.cellsOf 26 = 1 := by kernel_rfl
  have h2 : Tryz.prog.cellsOf 2 = 1 := by kernel_rfl
  have h3 : Tryz.prog.cellsOf 9 = 1 := by kernel_rfl
  have h4 : Tryz.prog.cellsOf 4 = 1 := by kernel_rfl
  have h5 : Tryz.prog.cellsOf 27 = 1 := by kernel_rfl
  rw [hc] at hl
  match cs, hl, xs, hlen with
  | [c0, c1, c2, c3, c4], _, [x0, x1, x2, x3, x4], _ =>
    have g0 := hg 0 _ rfl
    have g1 := hg 1 _ rfl
    have g2 := hg 2 _ rfl
    have g3 := hg 3 _ rfl
    have g4 := hg 4 _ rfl
    simp only [h1, h2, h3, h4, h5, List.drop, List.take, List.getElem?_cons_zero, List.getElem?_cons_succ] at g0 g1 g2 g3 g4
    obtain ⟨n0, e0, z0, -⟩ := DataW.trod_int Tryz.underlying26 g0
    obtain ⟨n1, e1, z1, hw⟩ := DataW.trod_int Tryz.underlying2 g1
    obtain ⟨s, e2, z2, -⟩ := DataW.trod_string Tryz.underlying9 g2
    obtain ⟨b, e3, z3⟩ := DataW.trod_bool Tryz.underlying4 g3
    obtain ⟨n4, e4, z4, -⟩ := DataW.trod_int Tryz.underlying27 g4
    cases e0; cases e1; cases e2; cases e3; cases e4
    subst z0; subst z1; subst z2; subst z3; subst z4
    exact ⟨⟨n0, n1, s, b, n4⟩, rfl, wf_64 hw, hx⟩
theorem open_P {H : Type} {enc : TypeId × Value → H} {w : World} {base b0 : Nat} {spare : Nat → Bool} {held : Bool} {r : Reach} {v : Value} {d : DataW H} {p : List MemPlace}
    (hv : Value.okWide Tryz.prog w r b0 48 v) (h : DataW.Trod enc Tryz.prog w base spare held 48 v d p) : ∃ (op one two text : Int) (x y : V), v = .agg #[.int .i64 op, .int .i64 x.tag, .int .i64 x.num, .string x.str, .bool x.is, .int .i64 x.code, .int .i64 y.tag, .int .i64 y.num, .string y.str, .bool y.is, .int .i64 y.code, .int .i64 one, .int .i64 two, .int .i64 text] ∧ (Is64 op ∧ Is64 one ∧ Is64 two ∧ Is64 text) ∧ Is64 x.num ∧ Is64 y.num ∧
      d = .agg [.lit (.int .i64 op), datV x, datV y, .lit (.int .i64 one), .lit (.int .i64 two), .lit (.int .i64 text)] := by
  obtain ⟨⟨cs⟩, rfl, -⟩ := okWide_struct Tryz.underlying48 hv
  obtain ⟨fuel, hf⟩ := h
  obtain ⟨xs, m, -, hx, hl, hlen, hg⟩ := DataW.trod_struct Tryz.underlying48 hf
  have hc : Tryz.prog.cellsOf 48 = 14 := by kernel_rfl
  have h1 : Tryz.prog.cellsOf 3 = 1 := by kernel_rfl
  have h2 : Tryz.prog.cellsOf 29 = 5 := by kernel_rfl
  rw [hc] at hl
  simp only [Value.cells] at hl hg
  match cs, hl, xs, hlen with
  | [c0, c1, c2, c3, c4, c5, c6, c7, c8, c9, c10, c11, c12, c13], _, [x0, x1, x2, x3, x4, x5], _ =>
    have g0 := hg 0 _ rfl
    have g1 := hg 1 _ rfl
    have g2 := hg 2 _ rfl
    have g3 := hg 3 _ rfl
    have g4 := hg 4 _ rfl
    have g5 := hg 5 _ rfl
    simp only [h1, h2, List.drop, List.take, List.getElem?_cons_zero, List.getElem?_cons_succ] at g0 g1 g2 g3 g4 g5
    obtain ⟨op, e0, z0, w0⟩ := DataW.trod_int Tryz.underlying3 g0
    obtain ⟨x, e1, ix, z1⟩ := open_val g1
    obtain ⟨y, e2, iy, z2⟩ := open_val g2
    obtain ⟨one, e3, z3, w3⟩ := DataW.trod_int Tryz.underlying3 g3
    obtain ⟨two, e4, z4, w4⟩ := DataW.trod_int Tryz.underlying3 g4
    obtain ⟨text, e5, z5, w5⟩ := DataW.trod_int Tryz.underlying3 g5
    cases e0; cases e1; cases e2; cases e3; cases e4; cases e5
    subst z0; subst z1; subst z2; subst z3; subst z4; subst z5
    exact ⟨op, one, two, text, x, y, rfl, ⟨wf_64 w0, wf_64 w3, wf_64 w4, wf_64 w5⟩, ix, iy, (Prod.mk.inj hx).1⟩
theorem weigh {H : Type} (op one two text : Int) (x y : V) : DataW.weightsEach Tryz.prog [48] [(.agg [.lit (.int .i64 op), datV x, datV y, .lit (.int .i64 one), .lit (.int .i64 two), .lit (.int .i64 text)] : DataW H)] = [x.str.size, y.str.size] := by
  simp [DataW.weightsEach, DataW.weights, datV, Tryz.underlying48, Tryz.underlying29]
theorem fits_of {H : Type} {op one two text : Int} {x y : V} (hx : Is64 x.num) (hy : Is64 y.num) (h : (DataW.weightsEach Tryz.prog [48] [(.agg [.lit (.int .i64 op), datV x, datV y, .lit (.int .i64 one), .lit (.int .i64 two), .lit (.int .i64 text)] : DataW H)]).all (· ≤ reachBytes) = true) : Fits x ∧ Fits y := by
  rw [weigh] at h
  simp only [List.all_cons, List.all_nil, Bool.and_true, Bool.and_eq_true, decide_eq_true_eq] at h
  unfold reachBytes at h
  exact ⟨⟨hx, by omega⟩, ⟨hy, by omega⟩⟩
theorem pow10_of_laid {l : List (String × DataW Unit)} {W : World} (hl : (l.filter fun x => x.2.handleName?.isNone).filter (fun x => x.1 == "internal/strconv.uint64pow10") = [("internal/strconv.uint64pow10", Lib.tabData .u64 Lib.pow10Tab)]) (h : laidMetH Tryz.prog l W) : Pow10 W := by
  have h2 := laidMet.filter (fun x => x.1 == "internal/strconv.uint64pow10") (laidMetH_iff.1 h).1
  rw [hl] at h2
  exact Lib.tabIs_of_head (g := 3) (e := 157) (by kernel_rfl) (by kernel_rfl) Tryz.underlying317 Tryz.underlying157 (by kernel_rfl) (by kernel_rfl) h2
end Go.Proofs.YtegbhdeaicgpkaaGreatDoor
