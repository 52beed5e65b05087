/-
  Maps that the program makes, with keys that are strings, whatever their elements: what a block holds is told as a list of pairs (key, value), the last of a key counting. Plain laws and the laws at the walk's operations; no condition.
-/
import Derived.WalkKit
import Derived.Maps.OwnSet
namespace Go.Proofs.YtegbhdeaicgpkaaGreatDoor
open Go Go.Maps Go.WideMaps

/-- An element reads as itself. -/
def rdv (v : Value) : Option (DataW Value × List MemPlace) := some (.held v, [])

/-- The datum of a list of pairs. -/
def mkD (es : List (ByteArray × Value)) : DataW Value := es.foldl (fun D p => D.put (.string p.1.data.toList) (.held p.2)) (.map [])

/-- What a list of pairs has at a key: the last. -/
def getS (es : List (ByteArray × Value)) (k : ByteArray) : Option Value := es.foldl (fun o p => if p.1 = k then some p.2 else o) none

theorem getS_snoc (es : List (ByteArray × Value)) (s k : ByteArray) (v : Value) : getS (es ++ [(s, v)]) k = if s = k then some v else getS es k := by
  simp [getS, List.foldl_append]

theorem mkD_snoc (es : List (ByteArray × Value)) (s : ByteArray) (v : Value) : mkD (es ++ [(s, v)]) = (mkD es).put (.string s.data.toList) (.held v) := by
  simp [mkD, List.foldl_append]

theorem bytes_inj {a b : ByteArray} (h : a.data.toList = b.data.toList) : a = b := by
  obtain ⟨⟨x⟩⟩ := a; obtain ⟨⟨y⟩⟩ := b; simp at h; rw [h]

theorem mkD_isMap (es : List (ByteArray × Value)) : IsMap (mkD es) := by
  unfold mkD
  generalize hD : (DataW.map [] : DataW Value) = D
  have hm : IsMap D := by rw [← hD]; exact isMap_empty
  clear hD
  induction es generalizing D with
  | nil => exact hm
  | cons p es ih => exact ih _ (hm.put _ _)

theorem spec_fold (es : List (ByteArray × Value)) (k : ByteArray) (z : Value) : ∀ (D : DataW Value) (o : Option Value), IsMap D → Maps.has D (.string k.data.toList) = o.isSome → D.atKey (.string k.data.toList) (.held z) = .held (o.getD z) →
    Maps.has (es.foldl (fun D p => D.put (.string p.1.data.toList) (.held p.2)) D) (.string k.data.toList) = (es.foldl (fun o p => if p.1 = k then some p.2 else o) o).isSome ∧
    (es.foldl (fun D p => D.put (.string p.1.data.toList) (.held p.2)) D).atKey (.string k.data.toList) (.held z) = .held ((es.foldl (fun o p => if p.1 = k then some p.2 else o) o).getD z) := by
  induction es with
  | nil => exact fun D o _ h1 h2 => ⟨h1, h2⟩
  | cons p es ih =>
    intro D o hm h1 h2
    obtain ⟨s, v⟩ := p
    refine ih _ _ (hm.put _ _) ?_ ?_
    · by_cases h : s = k
      · subst h
        simp only [if_true]
        rw [has_put_same hm (by simp [WideAt.IsKeyLit])]; rfl
      · have hne : (Lit.string k.data.toList) ≠ .string s.data.toList := fun e => h (bytes_inj (by injection e with e; exact e.symm))
        simp only [if_neg h]
        rw [has_put_other hne, h1]
    · by_cases h : s = k
      · subst h
        simp only [if_true]
        rw [atKey_put_same hm (by simp [WideAt.IsKeyLit])]; rfl
      · have hne : (Lit.string k.data.toList) ≠ .string s.data.toList := fun e => h (bytes_inj (by injection e with e; exact e.symm))
        simp only [if_neg h]
        rw [atKey_put_other hne, h2]

theorem mkD_spec (es : List (ByteArray × Value)) (k : ByteArray) (z : Value) :
    Maps.has (mkD es) (.string k.data.toList) = (getS es k).isSome ∧ (mkD es).atKey (.string k.data.toList) (.held z) = .held ((getS es k).getD z) :=
  spec_fold es k z _ _ isMap_empty rfl rfl

/-- Block b of w is a map with keys that are strings (of type k) which holds just these pairs. -/
def StrMap (P : Program) (k : TypeId) (w : World) (b : Nat) (es : List (ByteArray × Value)) : Prop := w.ownsMap P k rdv b es.length (mkD es)

section
variable {P : Program} {k e t : TypeId} {w w' : World} {b : Nat} {es : List (ByteArray × Value)}
theorem StrMap.made (P : Program) (k : TypeId) (w : World) : StrMap P k (w.alloc (.map #[] 0)) w.heap.size [] := World.ownsMap_made w P k rdv
theorem StrMap.lt (h : StrMap P k w b es) : b < w.heap.size := World.ownsMap.lt h
theorem StrMap.alloc (h : StrMap P k w b es) (o : Obj) : StrMap P k (w.alloc o) b es := World.ownsMap.alloc h o
theorem StrMap.drew (h : StrMap P k w b es) : StrMap P k w.drew b es := h
theorem StrMap.grown {row : Option Nat} (h : StrMap P k w b es) (hg : w.grownBy w' row) (hne : some b ≠ row) : StrMap P k w' b es := World.ownsMap.kept h hg hne
theorem StrMap.below {B : Nat} (h : StrMap P k w b es) (hb : RowKit.Below B w w') (hlt : b < B) : StrMap P k w' b es := by
  obtain ⟨xs, clock, hx, r⟩ := h
  exact ⟨xs, clock, (hb.block b hlt).trans hx, r⟩
theorem StrMap.setCell (h : StrMap P k w b es) {a : Addr} (ha : b ≠ a.block) (u : Value) : StrMap P k (w.setCell a u) b es := World.ownsMap.setCell h ha u
theorem StrMap.look (h : StrMap P k w b es) (hk : P.underlying k = some .string) (ht : P.underlying t = some (.map k e)) {z : Value} (hz : (zeroValue e).run P w = .ok z w) (s : ByteArray) (hs : s.size ≤ maxLen) :
    (Instr.lookup t (.map (some b)) (.string s) true).run P w = .ok (.tuple #[(getS es s).getD z, .bool (getS es s).isSome]) w := by
  obtain ⟨v, ps, hrun, hv⟩ := World.ownsMap.look_ok h (string_keyed hk) ht hz (zd := .held z) (zp := []) rfl (keyOf_string_mk hk hs)
  obtain ⟨h1, h2⟩ := mkD_spec es s z
  rw [hrun, h1]
  rw [h2] at hv
  simp only [rdv, Option.some.injEq, Prod.mk.injEq, DataW.held.injEq] at hv
  rw [hv.1]
theorem StrMap.look1 (h : StrMap P k w b es) (hk : P.underlying k = some .string) (ht : P.underlying t = some (.map k e)) {z : Value} (hz : (zeroValue e).run P w = .ok z w) (s : ByteArray) (hs : s.size ≤ maxLen) :
    (Instr.lookup t (.map (some b)) (.string s) false).run P w = .ok ((getS es s).getD z) w := by
  obtain ⟨v, ps, hrun, hv⟩ := World.ownsMap.lookup h (string_keyed hk) ht hz (zd := .held z) (zp := []) rfl (keyOf_string_mk hk hs)
  obtain ⟨_, h2⟩ := mkD_spec es s z
  rw [hrun]
  rw [h2] at hv
  simp only [rdv, Option.some.injEq, Prod.mk.injEq, DataW.held.injEq] at hv
  rw [hv.1]
theorem StrMap.update (h : StrMap P k w b es) (hk : P.underlying k = some .string) (ht : P.underlying t = some (.map k e)) (hn : es.length < maxLen) (s : ByteArray) (hs : s.size ≤ maxLen) (v : Value) :
    ∃ w', (Instr.mapUpdate t (.map (some b)) (.string s) v).run P w = .ok () w' ∧ StrMap P k w' b (es ++ [(s, v)]) ∧ w.grownBy w' (some b) := by
  obtain ⟨w', hrun, h1, h2⟩ := World.ownsMap.update h (string_keyed hk) ht hn (val := v) (d := .held v) (ps := []) (keyOf_string_mk hk hs) rfl
  refine ⟨w', hrun, ?_, h2⟩
  unfold StrMap
  rw [mkD_snoc, List.length_append]
  exact h1
end

section
variable {P : Program} {ops : Array Oper} {rest : List Oper} {o : Oper} {a : Act} {Q : Exit → Act → World → Prop}
/-- A literal's entry, at the operation. -/
theorem wpList_insertS (w : World) (hg : o.guard = none) (t : TypeId) (m x v : Operand) (hop : o.op = Op.insert t m x v) (k e : TypeId) (hk : P.underlying k = some .string) (ht : P.underlying t = some (.map k e)) (b : Nat) (es : List (ByteArray × Value))
    (hm : a.eval m = .map (some b)) (h : StrMap P k w b es) (hn : es.length < maxLen) (s : ByteArray) (hx : a.eval x = .string s) (hs : s.size ≤ maxLen) (u : Value) (hv : a.eval v = u)
    (hK : ∀ w', StrMap P k w' b (es ++ [(s, u)]) → w.grownBy w' (some b) → wpList P ops Q rest (a.put o.dst undef) w') : wpList P ops Q (o :: rest) a w := by
  refine wpList_plain hg fun K' hK' => ?_
  obtain ⟨w', hrun, r1, r2⟩ := h.update hk ht hn s hs u
  unfold Oper.wp
  simp [execOp, hop, hm, hx, hv, hrun, Result.andThen]
  exact hK' _ _ (hK w' r1 r2)
/-- A store, at the operation. -/
theorem wpList_updateS (w : World) (hg : o.guard = none) (t : TypeId) (m x v : Operand) (hop : o.op = Op.mapUpdate t m x v) (k e : TypeId) (hk : P.underlying k = some .string) (ht : P.underlying t = some (.map k e)) (b : Nat) (es : List (ByteArray × Value))
    (hm : a.eval m = .map (some b)) (h : StrMap P k w b es) (hn : es.length < maxLen) (s : ByteArray) (hx : a.eval x = .string s) (hs : s.size ≤ maxLen) (u : Value) (hv : a.eval v = u)
    (hK : ∀ w', StrMap P k w' b (es ++ [(s, u)]) → w.grownBy w' (some b) → wpList P ops Q rest (a.put o.dst undef) w') : wpList P ops Q (o :: rest) a w := by
  refine wpList_plain hg fun K' hK' => ?_
  obtain ⟨w', hrun, r1, r2⟩ := h.update hk ht hn s hs u
  unfold Oper.wp
  simp [execOp, hop, hm, hx, hv, hrun, Result.andThen]
  exact hK' _ _ (hK w' r1 r2)
/-- 'v, ok := m[k]', at the operation. -/
theorem wpList_lookS (w : World) (hg : o.guard = none) (t : TypeId) (m x : Operand) (hop : o.op = Op.lookup t m x true) (k e : TypeId) (hk : P.underlying k = some .string) (ht : P.underlying t = some (.map k e)) {z : Value} (hz : (zeroValue e).run P w = .ok z w) (b : Nat) (es : List (ByteArray × Value))
    (hm : a.eval m = .map (some b)) (h : StrMap P k w b es) (s : ByteArray) (hx : a.eval x = .string s) (hs : s.size ≤ maxLen)
    (hK : wpList P ops Q rest (a.put o.dst (.tuple #[(getS es s).getD z, .bool (getS es s).isSome])) w) : wpList P ops Q (o :: rest) a w := by
  refine wpList_plain hg fun K' hK' => ?_
  unfold Oper.wp
  simp [execOp, hop, hm, hx, h.look hk ht hz s hs, Result.andThen]
  exact hK' _ _ hK
end
end Go.Proofs.YtegbhdeaicgpkaaGreatDoor
