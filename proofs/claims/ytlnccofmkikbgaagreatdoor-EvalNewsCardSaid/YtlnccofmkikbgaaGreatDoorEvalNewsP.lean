/-
  The law EvalNews: for every bound of texts, truth and formula it returns true, and all read behind the call as they read before. No condition.
-/
import Derived.Test.YtlnccofmkikbgaaGreatDoorEvalNewsW
import Derived.Test.YtlnccofmkikbgaaGreatDoorTop
import Derived.Test.YtlnccofmkikbgaaGreatDoorFactsEvalNews
import Derived.Test.YtlnccofmkikbgaaGreatDoorCards
import Derived.Test.YtlnccofmkikbgaaGreatDoorTie
import Derived.Lib.SmallJoins
namespace Go.Proofs.YtlnccofmkikbgaaGreatDoor.fnNews
open Go.ChangeShapes Go.WideShapes Go.ChangeAt Go.RowKit Go.Joins Go.Deep
set_option maxRecDepth 100000

/-- A struct all of whose fields take one cell: each field reads at its own cell. -/
theorem field_at {H : Type} {enc : TypeId × Value → H} {P : Program} {w : World} {base : Nat} {spare : Nat → Bool} {held : Bool} {fs : Array Field} {t : TypeId} {cs : List Value} {fuel : Nat} {x : DataW H × List MemPlace}
    (ht : P.underlying t = some (.struct fs)) (hone : oneCellFields P fs = true) (h : DataW.trod enc P w base spare held fuel t cs = some x) :
    cs.length = P.cellsOf t ∧ ∃ n, ∀ i f, fs[i]? = some f → ∃ y, DataW.trod enc P w base spare held n f.type ((cs.drop i).take 1) = some y := by
  obtain ⟨xs, n, -, -, hcl, hlen, hg⟩ := DataW.trod_struct ht h
  refine ⟨hcl, n, fun i f hi => ?_⟩
  obtain ⟨ho, hk⟩ := hone_of hone i f hi
  have hl : i < fs.size := (Array.getElem?_eq_some_iff.1 hi).1
  have hx := hg i f hi
  rw [ho, hk, List.getElem?_eq_getElem (by omega)] at hx
  exact ⟨_, hx⟩
/-- A formula, opened. -/
theorem open_F {H : Type} {enc : TypeId × Value → H} {w : World} {base b0 : Nat} {spare : Nat → Bool} {held : Bool} {r : Reach} {v : Value} {d : DataW H} {p : List MemPlace}
    (hv : Value.okWide Tryz.prog w r b0 24 v) (h : DataW.Trod enc Tryz.prog w base spare held 24 v d p) : ∃ (A : Option Addr) (n c : Nat), v = .agg #[.slice A n c] := by
  obtain ⟨⟨cs⟩, rfl, -⟩ := okWide_struct Tryz.underlying24 hv
  obtain ⟨fuel, hf⟩ := h
  obtain ⟨hl, n, hg⟩ := field_at Tryz.underlying24 (by kernel_rfl) hf
  have hc : Tryz.prog.cellsOf 24 = 1 := by kernel_rfl
  rw [hc] at hl
  simp only [Value.cells] at hl hg
  match cs, hl with
  | [c0], _ =>
    obtain ⟨z0, g0⟩ := hg 0 _ rfl
    rcases Go.Deep.open_slice Tryz.underlying22 g0 with ⟨e0, -⟩ | ⟨a, len, cap, m, k, D, Pl, e0, -⟩
    · cases e0
      exact ⟨none, 0, 0, rfl⟩
    · cases e0
      exact ⟨some a, len, cap, rfl⟩

/-- What the walk gives, for every argument. -/
theorem contract (H : Type) (enc : TypeId × Value → H) (W : World) (base : Nat) (args : Array Value) (ds gs : List (DataW H)) (before : List MemPlace)
    (hval : ∀ (j : Nat) t v, Tryz.f3.params[j]? = some t → args[j]? = some v → Value.okWide Tryz.prog W .any base t v)
    (hW : DataW.Whole enc Tryz.prog Tryz.f3.params.toList Rows.evalNewsSpec.vars false W args.toList ds gs before) :
    Calls Tryz.prog 3 args W fun e W' => ∃ v, e = .returned v ∧ Rows.evalNewsSpec.post enc Tryz.prog Tryz.f3 false true false false W args v W' := by
  have hW' := hW
  have hlt0 : ∀ x ∈ before, x.block < W.heap.size := fun x hx => hW'.lt x hx
  obtain ⟨p, q, hA0, hV, rfl, hfz, hnd⟩ := hW
  have hA : DataW.TrodAll enc Tryz.prog W 0 (fun _ => true) true Tryz.f3.params.toList args.toList ds p := hA0
  rw [Tryz.params3] at hA hval
  obtain ⟨v0, vs0, d0, ds0, p0, q0, hargs, rfl, rfl, h0, r0⟩ := trodAll_cons hA
  obtain ⟨v1, vs1, d1, ds1, p1, q1, rfl, rfl, rfl, h1, r1⟩ := trodAll_cons r0
  obtain ⟨v2, vs2, d2, ds2, p2, q2, rfl, rfl, rfl, h2, r2⟩ := trodAll_cons r1
  obtain ⟨rfl, rfl, rfl⟩ := trodAll_nil r2
  obtain rfl : args = #[v0, v1, v2] := by cases args; simp_all
  obtain ⟨rfl, rfl⟩ := trodVars_none hV
  obtain ⟨text, rfl, rfl, rfl, hs⟩ := open_int Tryz.underlying3 (hval 0 3 v0 rfl rfl) h0
  obtain ⟨none, rfl, rfl, rfl⟩ := open_bool Tryz.underlying4 (hval 1 4 v1 rfl rfl) h1
  obtain ⟨A, n, c, rfl⟩ := open_F (hval 2 24 v2 rfl rfl) h2
  clear hA0
  simp only [List.append_nil, List.nil_append] at hW' hlt0
  refine (evalNews text none A n c W).mono fun e W' ⟨he, hg⟩ => ?_
  subst he
  exact ⟨_, rfl, post_of_below (pa := p2) (pv := []) hW' (fun _ _ _ => trodAll_cons_mk (shut_bool Tryz.underlying4 _) trodAll_mk0)
    (fun sp hsp => by have h := trodAll_cons_mk (shut_int (enc := enc) (w := W') (base := 0) (spare := sp) (held := true) Tryz.underlying3 hs) (trodAll_cons_mk (shut_bool Tryz.underlying4 none) (trodAll_cons_mk (trod_kept laid_out (by kernel_rfl) (of_decide_eq_true (by kernel_rfl)) h2 hg hlt0 sp hsp) trodAll_mk0)); simp only [List.nil_append, List.append_nil] at h; exact h)
    (fun _ _ => rfl) (by simp) hg (ok_one (by kernel_rfl) rfl (okWide_bool_mk Tryz.underlying4 _))⟩

set_option maxRecDepth 100000 in
theorem lifted (os : Os) (started : os.Started) (H : Type) (enc : TypeId × Value → H) (F : Stop.Interp) :
    ReturnsInHanded {} Tryz.checked os 3 .any ((OpenSpec.ofChange Rows.evalNewsSpec).preRow enc Tryz.prog Tryz.f3 Rows.evalNewsRow.domain false Rows.evalNewsRow.laid) (((OpenSpec.ofChange Rows.evalNewsSpec).at F).post enc Tryz.prog Tryz.f3 false true false false) := by
  obtain ⟨places, hx⟩ : ∃ places, DataW.whole enc Tryz.prog ((World.laidAll Tryz.prog os Rows.evalNewsRow.laid).forCall (fun _ _ => 0) ⟨#[], #[.int .i64 0, .bool false, .agg #[.slice none 0 0]], []⟩).memory Tryz.f3.params.toList Rows.evalNewsSpec.vars false #[Value.int .i64 0, .bool false, .agg #[.slice none 0 0]].toList 8 = some ([.lit (.int .i64 0), .lit (.bool false), .agg [.nil]], [], places) := ⟨[], by kernel_rfl⟩
  refine returnsInHanded_of_row (C := Tryz.checked) (s := OpenSpec.ofChange Rows.evalNewsSpec) own_knob started (by kernel_rfl) Tryz.func3
    (witness_row_atRef (enc := enc) (C := Tryz.checked) false (World.laidAll Tryz.prog os Rows.evalNewsRow.laid) #[.int .i64 0, .bool false, .agg #[.slice none 0 0]] (World.laidAll_os _ _ _) (by kernel_rfl) (by kernel_rfl) (by kernel_rfl)
      (OpenSpec.preRow_of_cond 8 hx (by kernel_rfl) (fun k hk => by cases hk) (by kernel_rfl) (laidMet_laidAll _ (by kernel_rfl) (by kernel_rfl)))) ?_
  intro W base args ds gs before hval hW _ _ _ _ _ _
  exact contract H enc W base args ds gs before hval hW

theorem said : Rows.EvalNewsSaid :=
  OpenClaim.holds_of_cond 3 Tryz.f3 rfl rfl rfl rfl rfl rfl rfl ⟨rfl, rfl, rfl, rfl, rfl⟩ rfl rfl rfl rfl rfl (by kernel_rfl) Tryz.func3 factsEvalNews.closed
    (of_decide_eq_true (by kernel_rfl)) (by unfold Func.isWrapper; first | (rw [if_pos (by decide +kernel)]; kernel_rfl) | (rw [if_neg (by decide +kernel)]; exact ⟨rfl, rfl⟩))
    (fun os started H enc _ F => by rw [OpenClaim.pre_eq_preRow]; exact lifted os started H enc F)

theorem plain (f : FuncId) (fn : Func) (hf : Tryz.pinned.checked.prog.funcNamed "oriel/oriellaw12.EvalNews" = some f) (hfn : Tryz.pinned.checked.prog.funcs[f]? = some fn) :
    true = Tryz.pinned.checked.prog.looks [] ∧ ∀ (j : Nat) t, fn.params[j]? = some t → Tryz.pinned.checked.prog.wantsStandIn t = false := by
  obtain rfl : f = 3 := Option.some.inj ((show Tryz.prog.funcNamed "oriel/oriellaw12.EvalNews" = some 3 by kernel_rfl).symm.trans hf) |>.symm
  obtain rfl : fn = Tryz.f3 := (Option.some.inj (Tryz.func3.symm.trans hfn)).symm
  refine ⟨by kernel_rfl, fun j t ht => ?_⟩
  rw [Tryz.params3] at ht
  have hm : t ∈ [3, 4, 24] := by simpa using Array.mem_of_getElem? ht
  have hall : ([3, 4, 24].all fun u => !Tryz.prog.wantsStandIn u) = true := by kernel_rfl
  exact (show Tryz.prog.wantsStandIn t = false by simpa using List.all_eq_true.1 hall t hm)

/-- The card. -/
theorem card : Rows.EvalNewsCardSaid :=
  Claim7.holds_tied_plain_at .later [] _ _ _ _ said (fun _ h => by cases h) (by kernel_rfl) (fun _ h => by cases h) evalNews_row_tie rfl ⟨rfl, rfl⟩ (by kernel_rfl) rfl plain (by kernel_rfl)
end Go.Proofs.YtlnccofmkikbgaaGreatDoor.fnNews
