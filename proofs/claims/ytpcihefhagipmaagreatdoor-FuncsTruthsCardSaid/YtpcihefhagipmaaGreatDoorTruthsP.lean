/-
  The law FuncsTruths: for every two values it returns true, and both read behind the call as they read before. No condition.
-/
import Derived.Test.YtpcihefhagipmaaGreatDoorTruthsW
import Derived.Test.YtpcihefhagipmaaGreatDoorTop
import Derived.Test.YtpcihefhagipmaaGreatDoorFactsFuncsTruths
import Derived.Test.YtpcihefhagipmaaGreatDoorCards
import Derived.Test.YtpcihefhagipmaaGreatDoorTie
import Derived.Lib.SmallJoins
namespace Go.Proofs.YtpcihefhagipmaaGreatDoor.fnTruths
open Go.ChangeShapes Go.WideShapes Go.ChangeAt Go.RowKit Go.Joins Go.Deep
set_option maxRecDepth 100000

/-- A struct all of whose fields take one cell: each field reads at its own cell. -/
theorem field_at {H : Type} {enc : TypeId × Value → H} {P : Program} {w : World} {base : Nat} {spare : Nat → Bool} {held : Bool} {fs : Array Field} {t : TypeId} {cs : List Value} {fuel : Nat} {x : DataW H × List MemPlace}
    (ht : P.underlying t = some (.struct fs)) (hone : oneCellFields P fs = true) (h : DataW.trod enc P w base spare held fuel t cs = some x) :
    cs.length = P.cellsOf t ∧ ∃ n, ∀ i f, fs[i]? = some f → ∃ y, DataW.trod enc P w base spare held n f.type ((cs.drop i).take 1) = some y := by
  obtain ⟨xs, n, -, -, hcl, hlen, hg⟩ := DataW.trod_struct ht h
  refine ⟨hcl, n, fun i f hi => ?_⟩
  obtain ⟨ho, hk⟩ := hone_of hone i f hi
  have hl : i < fs.size := (Array.getElem?_eq_some_iff.1 hi).1
  have hx := hg i f hi
  rw [ho, hk, List.getElem?_eq_getElem (by omega)] at hx
  exact ⟨_, hx⟩
/-- A value of the law's, opened: its five parts; its number is an int64. -/
theorem open_V {H : Type} {enc : TypeId × Value → H} {w : World} {base b0 : Nat} {spare : Nat → Bool} {held : Bool} {r : Reach} {v : Value} {d : DataW H} {p : List MemPlace}
    (hv : Value.okWide Tryz.prog w r b0 25 v) (h : DataW.Trod enc Tryz.prog w base spare held 25 v d p) : ∃ x : V, v = (Value.agg #[Value.int .i64 (x).tag, Value.int .i64 (x).num, Value.string (x).str, Value.bool (x).is, Value.int .i64 (x).code]) ∧ -9223372036854775808 ≤ x.num := by
  obtain ⟨⟨cs⟩, rfl, -⟩ := okWide_struct Tryz.underlying25 hv
  obtain ⟨fuel, hf⟩ := h
  obtain ⟨hl, n, hg⟩ := field_at Tryz.underlying25 (by kernel_rfl) hf
  have hc : Tryz.prog.cellsOf 25 = 5 := by kernel_rfl
  rw [hc] at hl
  simp only [Value.cells] at hl hg
  match cs, hl with
  | [c0, c1, c2, c3, c4], _ =>
    obtain ⟨z0, g0⟩ := hg 0 _ rfl
    obtain ⟨z1, g1⟩ := hg 1 _ rfl
    obtain ⟨z2, g2⟩ := hg 2 _ rfl
    obtain ⟨z3, g3⟩ := hg 3 _ rfl
    obtain ⟨z4, g4⟩ := hg 4 _ rfl
    obtain ⟨n0, e0, -⟩ := DataW.trod_int Tryz.underlying22 g0
    obtain ⟨n1, e1, -, hw⟩ := DataW.trod_int Tryz.underlying2 g1
    obtain ⟨s, e2, -⟩ := DataW.trod_string Tryz.underlying9 g2
    obtain ⟨b, e3, -⟩ := DataW.trod_bool Tryz.underlying4 g3
    obtain ⟨n4, e4, -⟩ := DataW.trod_int Tryz.underlying23 g4
    cases e0; cases e1; cases e2; cases e3; cases e4
    refine ⟨⟨n0, n1, s, b, n4⟩, rfl, ?_⟩
    simp only [Lit.wf, Bool.and_eq_true, decide_eq_true_eq] at hw
    exact hw.1

/-- What the walk gives, for every argument. -/
theorem contract (H : Type) (enc : TypeId × Value → H) (W : World) (base : Nat) (args : Array Value) (ds gs : List (DataW H)) (before : List MemPlace)
    (hval : ∀ (j : Nat) t v, Tryz.f3.params[j]? = some t → args[j]? = some v → Value.okWide Tryz.prog W .any base t v)
    (hW : DataW.Whole enc Tryz.prog Tryz.f3.params.toList Rows.funcsTruthsSpec.vars false W args.toList ds gs before) :
    Calls Tryz.prog 3 args W fun e W' => ∃ v, e = .returned v ∧ Rows.funcsTruthsSpec.post enc Tryz.prog Tryz.f3 false true false false W args v W' := by
  have hW' := hW
  have hlt0 : ∀ x ∈ before, x.block < W.heap.size := fun x hx => hW'.lt x hx
  obtain ⟨p, q, hA0, hV, rfl, hfz, hnd⟩ := hW
  have hA : DataW.TrodAll enc Tryz.prog W 0 (fun _ => true) true Tryz.f3.params.toList args.toList ds p := hA0
  rw [Tryz.params3] at hA hval
  obtain ⟨v0, vs0, d0, ds0, p0, q0, hargs, rfl, rfl, h0, r0⟩ := trodAll_cons hA
  obtain ⟨v1, vs1, d1, ds1, p1, q1, rfl, rfl, rfl, h1, r1⟩ := trodAll_cons r0
  obtain ⟨rfl, rfl, rfl⟩ := trodAll_nil r1
  obtain rfl : args = #[v0, v1] := by cases args; simp_all
  obtain ⟨rfl, rfl⟩ := trodVars_none hV
  obtain ⟨x, rfl, hx⟩ := open_V (hval 0 25 v0 rfl rfl) h0
  obtain ⟨y, rfl, hy⟩ := open_V (hval 1 25 v1 rfl rfl) h1
  clear hA0
  simp only [List.append_nil, List.nil_append] at hW' hlt0
  refine (funcsTruths x y hx hy W).mono fun e W' ⟨he, hg⟩ => ?_
  subst he
  exact ⟨_, rfl, post_of_below (pa := p0 ++ p1) (pv := []) hW' (fun _ _ _ => trodAll_cons_mk (shut_bool Tryz.underlying4 _) trodAll_mk0)
    (fun sp hsp => by have h := trodAll_cons_mk (trod_kept laid_out (by kernel_rfl) (of_decide_eq_true (by kernel_rfl)) h0 hg (fun x hx => hlt0 x (List.mem_append_left _ hx)) sp (fun p hp => hsp p (List.mem_append_left _ hp))) (trodAll_cons_mk (trod_kept laid_out (by kernel_rfl) (of_decide_eq_true (by kernel_rfl)) h1 hg (fun x hx => hlt0 x (List.mem_append_right _ hx)) sp (fun p hp => hsp p (List.mem_append_right _ hp))) trodAll_mk0); rw [List.append_nil] at h; exact h)
    (fun _ _ => rfl) (by simp) hg (ok_one (by kernel_rfl) rfl (okWide_bool_mk Tryz.underlying4 _))⟩

set_option maxRecDepth 100000 in
theorem lifted (os : Os) (started : os.Started) (H : Type) (enc : TypeId × Value → H) (F : Stop.Interp) :
    ReturnsInHanded {} Tryz.checked os 3 .any ((OpenSpec.ofChange Rows.funcsTruthsSpec).preRow enc Tryz.prog Tryz.f3 Rows.funcsTruthsRow.domain false Rows.funcsTruthsRow.laid) (((OpenSpec.ofChange Rows.funcsTruthsSpec).at F).post enc Tryz.prog Tryz.f3 false true false false) := by
  obtain ⟨places, hx⟩ : ∃ places, DataW.whole enc Tryz.prog ((World.laidAll Tryz.prog os Rows.funcsTruthsRow.laid).forCall (fun _ _ => 0) ⟨#[], #[.agg #[.int .i64 0, .int .i64 0, .string ⟨#[]⟩, .bool false, .int .i64 0], .agg #[.int .i64 0, .int .i64 0, .string ⟨#[]⟩, .bool false, .int .i64 0]], []⟩).memory Tryz.f3.params.toList Rows.funcsTruthsSpec.vars false #[Value.agg #[.int .i64 0, .int .i64 0, .string ⟨#[]⟩, .bool false, .int .i64 0], .agg #[.int .i64 0, .int .i64 0, .string ⟨#[]⟩, .bool false, .int .i64 0]].toList 8 = some ([.agg [.lit (.int .i64 0), .lit (.int .i64 0), .lit (.string []), .lit (.bool false), .lit (.int .i64 0)], .agg [.lit (.int .i64 0), .lit (.int .i64 0), .lit (.string []), .lit (.bool false), .lit (.int .i64 0)]], [], places) := ⟨[], by kernel_rfl⟩
  refine returnsInHanded_of_row (C := Tryz.checked) (s := OpenSpec.ofChange Rows.funcsTruthsSpec) own_knob started (by kernel_rfl) Tryz.func3
    (witness_row_atRef (enc := enc) (C := Tryz.checked) false (World.laidAll Tryz.prog os Rows.funcsTruthsRow.laid) #[.agg #[.int .i64 0, .int .i64 0, .string ⟨#[]⟩, .bool false, .int .i64 0], .agg #[.int .i64 0, .int .i64 0, .string ⟨#[]⟩, .bool false, .int .i64 0]] (World.laidAll_os _ _ _) (by kernel_rfl) (by kernel_rfl) (by kernel_rfl)
      (OpenSpec.preRow_of_cond 8 hx (by kernel_rfl) (fun k hk => by cases hk) (by kernel_rfl) (laidMet_laidAll _ (by kernel_rfl) (by kernel_rfl)))) ?_
  intro W base args ds gs before hval hW _ _ _ _ _ _
  exact contract H enc W base args ds gs before hval hW

theorem said : Rows.FuncsTruthsSaid :=
  OpenClaim.holds_of_cond 3 Tryz.f3 rfl rfl rfl rfl rfl rfl rfl ⟨rfl, rfl, rfl, rfl, rfl⟩ rfl rfl rfl rfl rfl (by kernel_rfl) Tryz.func3 factsFuncsTruths.closed
    (of_decide_eq_true (by kernel_rfl)) (by unfold Func.isWrapper; first | (rw [if_pos (by decide +kernel)]; kernel_rfl) | (rw [if_neg (by decide +kernel)]; exact ⟨rfl, rfl⟩))
    (fun os started H enc _ F => by rw [OpenClaim.pre_eq_preRow]; exact lifted os started H enc F)

theorem plain (f : FuncId) (fn : Func) (hf : Tryz.pinned.checked.prog.funcNamed "oriel/oriellaw11.FuncsTruths" = some f) (hfn : Tryz.pinned.checked.prog.funcs[f]? = some fn) :
    true = Tryz.pinned.checked.prog.looks [] ∧ ∀ (j : Nat) t, fn.params[j]? = some t → Tryz.pinned.checked.prog.wantsStandIn t = false := by
  obtain rfl : f = 3 := Option.some.inj ((show Tryz.prog.funcNamed "oriel/oriellaw11.FuncsTruths" = some 3 by kernel_rfl).symm.trans hf) |>.symm
  obtain rfl : fn = Tryz.f3 := (Option.some.inj (Tryz.func3.symm.trans hfn)).symm
  refine ⟨by kernel_rfl, fun j t ht => ?_⟩
  rw [Tryz.params3] at ht
  have hm : t ∈ [25, 25] := by simpa using Array.mem_of_getElem? ht
  have hall : ([25, 25].all fun u => !Tryz.prog.wantsStandIn u) = true := by kernel_rfl
  exact (show Tryz.prog.wantsStandIn t = false by simpa using List.all_eq_true.1 hall t hm)

/-- The card. -/
theorem card : Rows.FuncsTruthsCardSaid :=
  Claim7.holds_tied_plain_at .later [] _ _ _ _ said (fun _ h => by cases h) (by kernel_rfl) (fun _ h => by cases h) funcsTruths_row_tie rfl ⟨rfl, rfl⟩ (by kernel_rfl) rfl plain (by kernel_rfl)
end Go.Proofs.YtpcihefhagipmaaGreatDoor.fnTruths
