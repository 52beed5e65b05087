/-
  Parts of a proof: PlMap, Place.
-/
import Derived.Test.YtegbhdeaicgpkaaGreatDoorJ01
import Derived.Test.YtegbhdeaicgpkaaGreatDoorJ03
import Derived.Test.YtegbhdeaicgpkaaGreatDoorJ15
import Derived.DeepKeys4
import Derived.Maps.Keyed
import Derived.MapViews
set_option linter.all false
namespace Go.Proofs.YtegbhdeaicgpkaaGreatDoor
open Go Go.Maps Go.WideMaps Go.RowKit
def plV (p : Int × Int) : Value := .agg #[.int .i64 p.1, .int .i64 p.2]
def plL (p : Int × Int) : Lit := .string (keyBytes [.int .i64 p.1, .int .i64 p.2])
def Ok64 (p : Int × Int) : Prop := Is64 p.1 ∧ Is64 p.2
structure PlaceKey (P : Program) (k : TypeId) : Prop where
  keyed : Keyed P k
  key : ∀ {p : Int × Int}, Ok64 p → keyOf P k (plV p) = some (plL p)
theorem PlaceKey.isKey {P : Program} {k : TypeId} (K : PlaceKey P k) {p : Int × Int} (h : Ok64 p) : WideAt.IsKeyLit (plL p) := K.keyed.key (K.key h)
theorem PlaceKey.inj {P : Program} {k : TypeId} (K : PlaceKey P k) {p q : Int × Int} (hp : Ok64 p) (hq : Ok64 q) (h : plL p = plL q) : p = q := by
  have h1 := K.keyed.inj (K.key hp) (by rw [h]; exact K.key hq)
  obtain ⟨a, b⟩ := p
  obtain ⟨c, d⟩ := q
  unfold plV at h1
  simpa using h1
def mkP (es : List ((Int × Int) × Value)) : DataW Value := es.foldl (fun D p => D.put (plL p.1) (.held p.2)) (.map [])
def getP (es : List ((Int × Int) × Value)) (k : Int × Int) : Option Value := es.foldl (fun o p => if p.1 = k then some p.2 else o) none
theorem getP_snoc (es : List ((Int × Int) × Value)) (s k : Int × Int) (v : Value) : getP (es ++ [(s, v)]) k = if s = k then some v else getP es k := by
  simp [getP, List.foldl_append]
theorem mkP_snoc (es : List ((Int × Int) × Value)) (s : Int × Int) (v : Value) : mkP (es ++ [(s, v)]) = (mkP es).put (plL s) (.held v) := by
  simp [mkP, List.foldl_append]
theorem mkP_isMap (es : List ((Int × Int) × Value)) : IsMap (mkP es) := by
  unfold mkP
  generalize hD : (DataW.map [] : DataW Value) = D
  have hm : IsMap D := by rw [← hD]; exact isMap_empty
  clear hD
  induction es generalizing D with
  | nil => exact hm
  | cons p es ih => exact ih _ (hm.put _ _)
theorem specP_fold {P : Program} {K : TypeId} (KP : PlaceKey P K) (es : List ((Int × Int) × Value)) (k : Int × Int) (hk : Ok64 k) (hes : ∀ p ∈ es, Ok64 p.1) (z : Value) : ∀ (D : DataW Value) (o : Option Value), IsMap D → Maps.has D (plL k) = o.isSome → D.atKey (plL k) (.held z) = .held (o.getD z) →
    Maps.has (es.foldl (fun D p => D.put (plL p.1) (.held p.2)) D) (plL k) = (es.foldl (fun o p => if p.1 = k then some p.2 else o) o).isSome ∧
    (es.foldl (fun D p => D.put (plL p.1) (.held p.2)) D).atKey (plL k) (.held z) = .held ((es.foldl (fun o p => if p.1 = k then some p.2 else o) o).getD z) := by
  induction es with
  | nil => exact fun D o _ h1 h2 => ⟨h1, h2⟩
  | cons p es ih =>
    intro D o hm h1 h2
    obtain ⟨s, v⟩ := p
    refine ih (fun p hp => hes p (List.mem_cons_of_mem _ hp)) _ _ (hm.put _ _) ?_ ?_
    · by_cases h : s = k
      · subst h
        simp only [if_true]
        rw [has_put_same hm (KP.isKey hk)]; rfl
      · have hne : plL k ≠ plL s := fun e => h (KP.inj (hes (s, v) (by simp)) hk e.symm)
        simp only [if_neg h]
        rw [has_put_other hne, h1]
    · by_cases h : s = k
      · subst h
        simp only [if_true]
        rw [atKey_put_same hm (KP.isKey hk)]; rfl
      · have hne : plL k ≠ plL s := fun e => h (KP.inj (hes (s, v) (by simp)) hk e.symm)
        simp only [if_neg h]
        rw [atKey_put_other hne, h2]
theorem mkP_spec {P : Program} {K : TypeId} (KP : PlaceKey P K) (es : List ((Int × Int) × Value)) (k : Int × Int) (hk : Ok64 k) (hes : ∀ p ∈ es, Ok64 p.1) (z : Value) :
    Maps.has (mkP es) (plL k) = (getP es k).isSome ∧ (mkP es).atKey (plL k) (.held z) = .held ((getP es k).getD z) :=
  specP_fold KP es k hk hes z _ _ isMap_empty rfl rfl
def PlMap (P : Program) (k : TypeId) (w : World) (b : Nat) (es : List ((Int × Int) × Value)) : Prop := w.ownsMap P k rdv b es.length (mkP es) ∧ ∀ p ∈ es, Ok64 p.1
section
variable {P : Program} {k e t : TypeId} {w w' : World} {b : Nat} {es : List ((Int × Int) × Value)}
theorem PlMap.made (P : Program) (k : TypeId) (w : World) : PlMap P k (w.alloc (.map #[] 0)) w.heap.size [] := ⟨World.ownsMap_made w P k rdv, fun _ h => by simp at h⟩
theorem PlMap.lt (h : PlMap P k w b es) : b < w.heap.size := World.ownsMap.lt h.1
theorem PlMap.alloc (h : PlMap P k w b es) (o : Obj) : PlMap P k (w.alloc o) b es := ⟨World.ownsMap.alloc h.1 o, h.2⟩
theorem PlMap.drew (h : PlMap P k w b es) : PlMap P k w.drew b es := h
theorem PlMap.grown {row : Option Nat} (h : PlMap P k w b es) (hg : w.grownBy w' row) (hne : some b ≠ row) : PlMap P k w' b es := ⟨World.ownsMap.kept h.1 hg hne, h.2⟩
theorem PlMap.below {B : Nat} (h : PlMap P k w b es) (hb : RowKit.Below B w w') (hlt : b < B) : PlMap P k w' b es := by
  obtain ⟨⟨xs, clock, hx, r⟩, h2⟩ := h
  exact ⟨⟨xs, clock, (hb.block b hlt).trans hx, r⟩, h2⟩
theorem PlMap.setCell (h : PlMap P k w b es) {a : Addr} (ha : b ≠ a.block) (u : Value) : PlMap P k (w.setCell a u) b es := ⟨World.ownsMap.setCell h.1 ha u, h.2⟩
theorem PlMap.look (h : PlMap P k w b es) (KP : PlaceKey P k) (ht : P.underlying t = some (.map k e)) {z : Value} (hz : (zeroValue e).run P w = .ok z w) (s : Int × Int) (hs : Ok64 s) :
    (Instr.lookup t (.map (some b)) (plV s) true).run P w = .ok (.tuple #[(getP es s).getD z, .bool (getP es s).isSome]) w := by
  obtain ⟨v, ps, hrun, hv⟩ := World.ownsMap.look_ok h.1 KP.keyed ht hz (zd := .held z) (zp := []) rfl (KP.key hs)
  obtain ⟨h1, h2⟩ := mkP_spec KP es s hs h.2 z
  rw [hrun, h1]
  rw [h2] at hv
  simp only [rdv, Option.some.injEq, Prod.mk.injEq, DataW.held.injEq] at hv
  rw [hv.1]
theorem PlMap.look1 (h : PlMap P k w b es) (KP : PlaceKey P k) (ht : P.underlying t = some (.map k e)) {z : Value} (hz : (zeroValue e).run P w = .ok z w) (s : Int × Int) (hs : Ok64 s) :
    (Instr.lookup t (.map (some b)) (plV s) false).run P w = .ok ((getP es s).getD z) w := by
  obtain ⟨v, ps, hrun, hv⟩ := World.ownsMap.lookup h.1 KP.keyed ht hz (zd := .held z) (zp := []) rfl (KP.key hs)
  obtain ⟨_, h2⟩ := mkP_spec KP es s hs h.2 z
  rw [hrun]
  rw [h2] at hv
  simp only [rdv, Option.some.injEq, Prod.mk.injEq, DataW.held.injEq] at hv
  rw [hv.1]
theorem PlMap.update (h : PlMap P k w b es) (KP : PlaceKey P k) (ht : P.underlying t = some (.map k e)) (hn : es.length < maxLen) (s : Int × Int) (hs : Ok64 s) (v : Value) :
    ∃ w', (Instr.mapUpdate t (.map (some b)) (plV s) v).run P w = .ok () w' ∧ PlMap P k w' b (es ++ [(s, v)]) ∧ w.grownBy w' (some b) := by
  obtain ⟨w', hrun, h1, h2⟩ := World.ownsMap.update h.1 KP.keyed ht hn (val := v) (d := .held v) (ps := []) (KP.key hs) rfl
  refine ⟨w', hrun, ⟨?_, ?_⟩, h2⟩
  · rw [mkP_snoc, List.length_append]
    exact h1
  · intro p hp
    rcases List.mem_append.1 hp with hp | hp
    · exact h.2 p hp
    · simp only [List.mem_cons, List.not_mem_nil, or_false] at hp
      subst hp
      exact hs
end
section
variable {P : Program} {ops : Array Oper} {rest : List Oper} {o : Oper} {a : Act} {Q : Exit → Act → World → Prop}
theorem wpList_insertP (w : World) (hg : o.guard = none) (t : TypeId) (m x v : Operand) (hop : o.op = Op.insert t m x v) (k e : TypeId) (KP : PlaceKey P k) (ht : P.underlying t = some (.map k e)) (b : Nat) (es : List ((Int × Int) × Value))
    (hm : a.eval m = .map (some b)) (h : PlMap P k w b es) (hn : es.length < maxLen) (s : Int × Int) (hx : a.eval x = plV s) (hs : Ok64 s) (u : Value) (hv : a.eval v = u)
    (hK : ∀ w', PlMap P k w' b (es ++ [(s, u)]) → w.grownBy w' (some b) → wpList P ops Q rest (a.put o.dst undef) w') : wpList P ops Q (o :: rest) a w := by
  refine wpList_plain hg fun K' hK' => ?_
  obtain ⟨w', hrun, r1, r2⟩ := h.update KP ht hn s hs u
  unfold Oper.wp
  simp [execOp, hop, hm, hx, hv, hrun, Result.andThen]
  exact hK' _ _ (hK w' r1 r2)
theorem wpList_updateP (w : World) (hg : o.guard = none) (t : TypeId) (m x v : Operand) (hop : o.op = Op.mapUpdate t m x v) (k e : TypeId) (KP : PlaceKey P k) (ht : P.underlying t = some (.map k e)) (b : Nat) (es : List ((Int × Int) × Value))
    (hm : a.eval m = .map (some b)) (h : PlMap P k w b es) (hn : es.length < maxLen) (s : Int × Int) (hx : a.eval x = plV s) (hs : Ok64 s) (u : Value) (hv : a.eval v = u)
    (hK : ∀ w', PlMap P k w' b (es ++ [(s, u)]) → w.grownBy w' (some b) → wpList P ops Q rest (a.put o.dst undef) w') : wpList P ops Q (o :: rest) a w := by
  refine wpList_plain hg fun K' hK' => ?_
  obtain ⟨w', hrun, r1, r2⟩ := h.update KP ht hn s hs u
  unfold Oper.wp
  simp [execOp, hop, hm, hx, hv, hrun, Result.andThen]
  exact hK' _ _ (hK w' r1 r2)
theorem wpList_lookP (w : World) (hg : o.guard = none) (t : TypeId) (m x : Operand) (hop : o.op = Op.lookup t m x true) (k e : TypeId) (KP : PlaceKey P k) (ht : P.underlying t = some (.map k e)) {z : Value} (hz : (zeroValue e).run P w = .ok z w) (b : Nat) (es : List ((Int × Int) × Value))
    (hm : a.eval m = .map (some b)) (h : PlMap P k w b es) (s : Int × Int) (hx : a.eval x = plV s) (hs : Ok64 s)
    (hK : wpList P ops Q rest (a.put o.dst (.tuple #[(getP es s).getD z, .bool (getP es s).isSome])) w) : wpList P ops Q (o :: rest) a w := by
  refine wpList_plain hg fun K' hK' => ?_
  unfold Oper.wp
  simp [execOp, hop, hm, hx, h.look KP ht hz s hs, Result.andThen]
  exact hK' _ _ hK
theorem wpList_look1P (w : World) (hg : o.guard = none) (t : TypeId) (m x : Operand) (hop : o.op = Op.lookup t m x false) (k e : TypeId) (KP : PlaceKey P k) (ht : P.underlying t = some (.map k e)) {z : Value} (hz : (zeroValue e).run P w = .ok z w) (b : Nat) (es : List ((Int × Int) × Value))
    (hm : a.eval m = .map (some b)) (h : PlMap P k w b es) (s : Int × Int) (hx : a.eval x = plV s) (hs : Ok64 s)
    (hK : wpList P ops Q rest (a.put o.dst ((getP es s).getD z)) w) : wpList P ops Q (o :: rest) a w := by
  refine wpList_plain hg fun K' hK' => ?_
  unfold Oper.wp
  simp [execOp, hop, hm, hx, h.look1 KP ht hz s hs, Result.andThen]
  exact hK' _ _ hK
end
end Go.Proofs.YtegbhdeaicgpkaaGreatDoor
namespace Go.Proofs.YtegbhdeaicgpkaaGreatDoor
open Go Go.Maps Go.WideMaps Go.RowKit
theorem prog_laid : laidOutB Tryz.prog = true := by kernel_rfl
theorem place_row : (232 : TypeId) < Tryz.prog.types.size := of_decide_eq_true (by kernel_rfl)
theorem place_wide : (match Tryz.prog.underlying 232 with | some (.array _ _) | some (.struct _) => true | _ => false) = true := by rw [Tryz.underlying232]
set_option maxRecDepth 1000000 in
theorem place_law : KeyLaw Tryz.prog 232 := deep_law_laid prog_laid (m := 2) (by omega) place_row (by kernel_rfl) place_wide
theorem place_type : Tryz.prog.keyType 232 = true := by kernel_rfl
theorem place_cells : Tryz.prog.cellsOf 232 = 2 := by kernel_rfl
theorem int_cells : Tryz.prog.cellsOf 3 = 1 := by kernel_rfl
theorem types_size : ∃ m, Tryz.prog.types.size = m + 1 := ⟨Tryz.prog.types.size - 1, by kernel_rfl⟩
theorem wf64 {a : Int} (h : Is64 a) : (Lit.int .i64 a).wf = true := by
  have := wrap64_wf a
  rwa [show wrap64 a = a by unfold wrap64; unfold Is64 at h; omega] at this
theorem place_key : PlaceKey Tryz.prog 232 where
  keyed := Keyed.of_law place_law
  key {p} h := by
    obtain ⟨a, b⟩ := p
    have wa := wf64 h.1
    have wb := wf64 h.2
    obtain ⟨m, hm⟩ := types_size
    unfold keyOf plV plL
    simp only [Tryz.underlying232]
    rw [if_pos (by simp [place_type, Value.formed, Tryz.underlying232, place_cells]), hm]
    unfold Program.keyLits
    simp only [Tryz.underlying232, Value.cells]
    rw [if_pos ⟨by rw [place_cells]; rfl, by kernel_rfl⟩]
    simp [int_cells, Program.keyLits, Tryz.underlying3, wa, wb]
end Go.Proofs.YtegbhdeaicgpkaaGreatDoor
