/-
  Parts of a proof: Set, Own.
-/
import Derived.Test.YtegbhdeaicgpkaaGreatDoorJ01
import Derived.Test.YtegbhdeaicgpkaaGreatDoorJ02
import Derived.Laws.EntriesVeiled
set_option linter.all false
namespace Go.Proofs.YtegbhdeaicgpkaaGreatDoor
open Go Go.RowKit Go.MapKept
def ents : List (ByteArray × Value) → Nat → List MapEntry
  | [], _ => []
  | p :: L, i => ⟨.string p.1, p.2, i⟩ :: ents L (i + 1)
def findU (k : ByteArray) : List (ByteArray × Value) → Option (Nat × Value)
  | [] => none
  | p :: L => if p.1 = k then some (0, p.2) else (findU k L).map fun q => (q.1 + 1, q.2)
def ups (k : ByteArray) (v : Value) : List (ByteArray × Value) → List (ByteArray × Value)
  | [] => [(k, v)]
  | p :: L => if p.1 = k then (k, v) :: L else p :: ups k v L
def getU (k : ByteArray) (L : List (ByteArray × Value)) : Option Value := (findU k L).map (·.2)
theorem getU_ups (k k' : ByteArray) (v : Value) (L : List (ByteArray × Value)) : getU k' (ups k v L) = if k = k' then some v else getU k' L := by
  induction L with
  | nil => by_cases h : k = k' <;> simp [getU, ups, findU, h]
  | cons p L ih =>
    unfold ups
    by_cases h : p.1 = k
    · rw [if_pos h]
      by_cases h' : k = k'
      · simp [getU, findU, h']
      · have : p.1 ≠ k' := fun e => h' (h.symm.trans e)
        simp [getU, findU, h', this]
    · rw [if_neg h]
      by_cases h' : p.1 = k'
      · have : k ≠ k' := fun e => h (h'.trans e.symm)
        simp [getU, findU, h', this]
      · have e1 : ∀ M, getU k' (p :: M) = getU k' M := fun M => by simp [getU, findU, h', Function.comp_def]
        rw [e1, e1, ih]
theorem len_ents (L : List (ByteArray × Value)) : ∀ i, (ents L i).length = L.length := by
  induction L with
  | nil => exact fun _ => rfl
  | cons p L ih => exact fun i => by simp [ents, ih]
theorem key_ents (L : List (ByteArray × Value)) : ∀ i, ∀ x ∈ ents L i, IsKey .string x.key := by
  induction L with
  | nil => intro i x hx; simp [ents] at hx
  | cons p L ih =>
    intro i x hx
    simp only [ents, List.mem_cons] at hx
    rcases hx with rfl | hx
    · simp [IsKey]
    · exact ih _ x hx
theorem find_ents (k : ByteArray) (L : List (ByteArray × Value)) : ∀ b i, Instr.findNow .string (.string k) (ents L b) i = some ((findU k L).map fun q => (i + q.1, q.2)) := by
  induction L with
  | nil => exact fun _ _ => rfl
  | cons p L ih =>
    intro b i
    by_cases h : p.1 = k
    · have hb : (k == p.1) = true := by rw [h]; exact (bytes_beq k k).2 rfl
      simp [ents, Instr.findNow, Instr.sameNow, findU, h, hb]
      rw [← h] at hb ⊢
      simp [hb]
    · have hb : (k == p.1) = false := by
        cases hc : (k == p.1) with
        | false => rfl
        | true => exact absurd ((bytes_beq k p.1).1 hc).symm h
      simp only [ents, Instr.findNow, Instr.sameNow, hb, findU, if_neg h, ih, Option.map_map]
      congr 2
      funext q
      simp only [Function.comp]
      rw [Nat.add_assoc, Nat.add_comm 1]
theorem ents_ups (k : ByteArray) (v : Value) (L : List (ByteArray × Value)) : ∀ i, match findU k L with
    | some q => ents (ups k v L) i = (ents L i).modify q.1 (fun e => { e with key := .string k, val := v }) ∧ (ups k v L).length = L.length ∧ (ents L i)[q.1]?.map (·.key) = some (.string k)
    | none => ents (ups k v L) i = ents L i ++ [⟨.string k, v, i + L.length⟩] ∧ (ups k v L).length = L.length + 1 := by
  induction L with
  | nil => intro i; simp [findU, ups, ents]
  | cons p L ih =>
    intro i
    by_cases h : p.1 = k
    · simp [findU, ups, ents, h, List.modify]
    · have := ih (i + 1)
      simp only [findU, if_neg h, ups]
      cases hf : findU k L with
      | none =>
        rw [hf] at this
        simp only [Option.map_none]
        obtain ⟨h1, h2⟩ := this
        exact ⟨by simp [ents, h1]; omega, by simp [h2]⟩
      | some q =>
        rw [hf] at this
        simp only [Option.map_some]
        obtain ⟨h1, h2, h3⟩ := this
        refine ⟨?_, by simp [h2], ?_⟩
        · simp only [ents, h1]; rfl
        · simpa [ents] using h3
def setMap (w : World) (b : Nat) (L : List (ByteArray × Value)) : World := { w with heap := w.heap.setIfInBounds b (.map (ents L 0).toArray L.length) }
section
variable {w : World} {b n i : Nat} {L : List (ByteArray × Value)} {v : Value}
theorem setMap_at (h : b < w.heap.size) : (setMap w b L).heap[b]? = some (.map (ents L 0).toArray L.length) := by simp [setMap, h]
theorem setMap_other (h : b ≠ n) : (setMap w b L).heap[n]? = w.heap[n]? := by simp [setMap, h]
@[simp, go_sem] theorem setMap_size : (setMap w b L).heap.size = w.heap.size := by simp [setMap]
@[go_sem] theorem setMap_cell (h : b ≠ n) : (setMap w b L).cell? ⟨n, i, none⟩ = w.cell? ⟨n, i, none⟩ := World.cell?_of_block (a := ⟨n, i, none⟩) (setMap_other h)
@[go_sem] theorem setMap_frozen (h : b ≠ n) : (setMap w b L).frozen? ⟨n, i, none⟩ = w.frozen? ⟨n, i, none⟩ := World.frozen?_of_block (a := ⟨n, i, none⟩) (setMap_other h)
@[go_sem] theorem setMap_setCell (h : b ≠ n) : (setMap w b L).setCell ⟨n, i, none⟩ v = setMap (w.setCell ⟨n, i, none⟩ v) b L := by
  unfold setMap World.setCell
  congr 1
  apply Array.ext_getElem?
  intro k
  simp only [Array.getElem?_modify, Array.getElem?_setIfInBounds, Array.size_modify]
  by_cases h1 : n = k
  · subst h1
    simp [h]
  · rw [if_neg h1]
    by_cases h2 : b = k
    · rw [if_pos h2, if_pos h2]
    · rw [if_neg h2, if_neg h2, if_neg h1]
@[go_sem] theorem setMap_alloc (o : Obj) (h : b < w.heap.size) : (setMap w b L).alloc o = setMap (w.alloc o) b L := by
  unfold setMap World.alloc
  congr 1
  apply Array.ext_getElem?
  intro k
  simp only [Array.getElem?_push, Array.getElem?_setIfInBounds, Array.size_setIfInBounds, Array.size_push]
  by_cases h1 : k = w.heap.size
  · subst h1
    simp [Nat.ne_of_lt h]
  · simp only [if_neg h1]
    by_cases h2 : b = k
    · subst h2; simp [h]; omega
    · simp [h2]
@[go_sem] theorem drew_setMap : setMap w.drew b L = (setMap w b L).drew := rfl
@[go_sem] theorem setMap_more {l : List Obj} (h : b < w.heap.size) : more (setMap w b L) l n = setMap (more w l n) b L := by
  unfold setMap more
  congr 1
  apply Array.ext_getElem?
  intro k
  simp only [Array.getElem?_append, Array.getElem?_setIfInBounds, Array.size_setIfInBounds, Array.size_append]
  by_cases h2 : b = k
  · subst h2; simp [h]; omega
  · by_cases h3 : k < w.heap.size <;> simp [h2, h3]
theorem below_setMap {B : Nat} {a : World} (h : Below B a w) (hB : B ≤ b) : Below B a (setMap w b L) :=
  h.trans ⟨rfl, rfl, rfl, by simp, fun k hk => setMap_other (by omega)⟩
variable {P : Program} {k e t : TypeId}
theorem run_makeMapS (w : World) (t : TypeId) : (Instr.makeMap t none).run P w = .ok (.map (some w.heap.size)) (setMap (w.alloc (.map #[] 0)) w.heap.size []) := by
  have e : setMap (w.alloc (.map #[] 0)) w.heap.size [] = w.alloc (.map #[] 0) := by
    unfold setMap World.alloc
    congr 1
    apply Array.ext_getElem?
    intro k
    simp only [Array.getElem?_push, Array.getElem?_setIfInBounds, Array.size_push]
    by_cases h : w.heap.size = k
    · subst h; simp [ents]
    · simp [h, Ne.symm h]
  rw [e]
  exact run_makeMap t w
theorem run_storeS (hk : P.underlying k = some .string) (ht : P.underlying t = some (.map k e)) (w : World) (h : b < w.heap.size) (s : ByteArray) (v : Value) (L : List (ByteArray × Value)) :
    (Instr.mapUpdate t (.map (some b)) (.string s) v).run P (setMap w b L) = .ok () (setMap w b (ups s v L)) := by
  have hb := setMap_at (L := L) h
  have hf := find_ents s L 0 0
  have he := ents_ups s v L 0
  have hke : IsKey .string (.string s) := by simp [IsKey]
  have hset : ∀ o : Obj, (setObj b o).run P (setMap w b L) = .ok () { w with heap := w.heap.setIfInBounds b o } := by
    intro o
    rw [MapKept.run_setObj_map _ hb]
    unfold setMap
    simp
  cases hq : findU s L with
  | none =>
    rw [hq] at hf he
    simp only [Option.map_none] at hf he
    simp [Instr.mapUpdate, run_underlying ht, MapKept.run_getObj_map hb, run_checkKey hk hke, run_findKey hk hf, hset, Result.andThen]
    unfold setMap
    rw [he.1, he.2]
    simp
  | some q =>
    rw [hq] at hf he
    simp only [Option.map_some, Nat.zero_add] at hf he
    obtain ⟨h1, h2, h3⟩ := he
    have hkey : (((ents L 0).toArray[q.1]?).map (·.key)).getD (.string s) = .string s := by
      rw [List.getElem?_toArray, h3]; rfl
    simp only [Instr.mapUpdate, Sem.run_bind, run_underlying ht, Result.andThen, MapKept.run_getObj_map hb, run_checkKey hk hke, List.toList_toArray]
    rw [run_findKey hk hf]
    simp only [hkey, run_keyThatStays hke, hset, Sem.run_bind, Result.andThen]
    unfold setMap
    rw [h1, h2]
    simp
theorem run_lookS (hk : P.underlying k = some .string) (ht : P.underlying t = some (.map k e)) (z : Value) (hz : ∀ w : World, (zeroValue e).run P w = .ok z w) (w : World) (h : b < w.heap.size) (s : ByteArray) (L : List (ByteArray × Value)) :
    (Instr.lookup t (.map (some b)) (.string s) true).run P (setMap w b L) = .ok (.tuple #[(getU s L).getD z, .bool (getU s L).isSome]) (setMap w b L) := by
  have hb := setMap_at (L := L) h
  have hf := find_ents s L 0 0
  have hke : IsKey .string (.string s) := by simp [IsKey]
  unfold getU
  cases hq : findU s L with
  | none =>
    rw [hq] at hf
    simp only [Option.map_none] at hf
    simp [Instr.lookup, run_underlying ht, MapKept.run_getObj_map hb, run_checkKey hk hke, run_findKey hk hf, hz, Result.andThen]
  | some q =>
    rw [hq] at hf
    simp only [Option.map_some] at hf
    simp [Instr.lookup, run_underlying ht, MapKept.run_getObj_map hb, run_checkKey hk hke, run_findKey hk hf, Result.andThen]
end
theorem bind_ups {α : Type} (g : Value → Option α) (k s : ByteArray) (v : Value) (L : List (ByteArray × Value)) : (getU s (ups k v L)).bind g = if k = s then g v else (getU s L).bind g := by
  rw [getU_ups]
  by_cases h : k = s <;> simp [h]
theorem bind_nil {α : Type} (g : Value → Option α) (s : ByteArray) : (getU s []).bind g = none := rfl
def AllV (Q : Value → Prop) (L : List (ByteArray × Value)) : Prop := ∀ s v, getU s L = some v → Q v
theorem AllV.nil (Q : Value → Prop) : AllV Q [] := fun s v h => by cases h
theorem AllV.ups {Q : Value → Prop} {k : ByteArray} {u : Value} {L : List (ByteArray × Value)} (h : AllV Q L) (hu : Q u) : AllV Q (ups k u L) := fun s v hv => by
  rw [getU_ups] at hv
  by_cases e : k = s
  · rw [if_pos e] at hv; cases hv; exact hu
  · rw [if_neg e] at hv; exact h s v hv
def FunN (v : Value) : Prop := ∃ (x y : Int) (fn : Fn) (first cap : Array Value), v = .agg #[.int .i64 x, .int .i64 y, .func fn first cap]
def FunT (v : Value) : Prop := ∃ (x : ByteArray) (y : Int) (fn : Fn) (first cap : Array Value), v = .agg #[.string x, .int .i64 y, .func fn first cap]
def FunA (v : Value) : Prop := ∃ (x : ByteArray) (y z : Int) (fn : Fn) (first cap : Array Value), v = .agg #[.string x, .int .i64 y, .int .i64 z, .func fn first cap]
def FunF (v : Value) : Prop := ∃ (fn : Fn) (first cap : Array Value) (fn1 : Fn) (first1 cap1 : Array Value), v = .agg #[.func fn first cap, .func fn1 first1 cap1]
theorem funN (x y : Int) (fn : Fn) (first cap : Array Value) : FunN (.agg #[.int .i64 x, .int .i64 y, .func fn first cap]) := ⟨x, y, fn, first, cap, rfl⟩
theorem funT (x : ByteArray) (y : Int) (fn : Fn) (first cap : Array Value) : FunT (.agg #[.string x, .int .i64 y, .func fn first cap]) := ⟨x, y, fn, first, cap, rfl⟩
theorem funA (x : ByteArray) (y z : Int) (fn : Fn) (first cap : Array Value) : FunA (.agg #[.string x, .int .i64 y, .int .i64 z, .func fn first cap]) := ⟨x, y, z, fn, first, cap, rfl⟩
theorem funF (fn : Fn) (first cap : Array Value) (fn1 : Fn) (first1 cap1 : Array Value) : FunF (.agg #[.func fn first cap, .func fn1 first1 cap1]) := ⟨fn, first, cap, fn1, first1, cap1, rfl⟩
section
variable {P : Program} {ops : Array Oper} {rest : List Oper} {o : Oper} {a : Act} {Q : Exit → Act → World → Prop}
theorem wpList_look0 (hg : o.guard = none) (t : TypeId) (m x : Operand) (hop : o.op = Op.lookup t m x true) (k e : TypeId) (hk : P.underlying k = some .string) (ht : P.underlying t = some (.map k e)) (z : Value) (hz : ∀ w : World, (zeroValue e).run P w = .ok z w)
    (w : World) (b : Nat) (L : List (ByteArray × Value)) (hm : a.eval m = .map (some b)) (hb : b < w.heap.size) (s : ByteArray) (hx : a.eval x = .string s)
    (hY : ∀ v, getU s L = some v → wpList P ops Q rest (a.put o.dst (.tuple #[v, .bool true])) (setMap w b L)) (hN : getU s L = none → wpList P ops Q rest (a.put o.dst (.tuple #[z, .bool false])) (setMap w b L)) : wpList P ops Q (o :: rest) a (setMap w b L) := by
  refine wpList_plain hg fun K' hK' => ?_
  unfold Oper.wp
  simp [execOp, hop, hm, hx, run_lookS hk ht z hz w hb s L, Result.andThen]
  cases h : getU s L with
  | none => exact hK' _ _ (hN h)
  | some v => exact hK' _ _ (hY v h)
theorem wpList_lookN (hg : o.guard = none) (t : TypeId) (m x : Operand) (hop : o.op = Op.lookup t m x true) (k e : TypeId) (hk : P.underlying k = some .string) (ht : P.underlying t = some (.map k e)) (z : Value) (hz : ∀ w : World, (zeroValue e).run P w = .ok z w)
    (w : World) (b : Nat) (L : List (ByteArray × Value)) (hm : a.eval m = .map (some b)) (hb : b < w.heap.size) (s : ByteArray) (hx : a.eval x = .string s) (hA : AllV FunN L)
    (hY : ∀ (c y : Int) (fn : Fn) (first cap : Array Value), RowKit.Hid (getU s L = some (.agg #[.int .i64 c, .int .i64 y, .func fn first cap])) → wpList P ops Q rest (a.put o.dst (.tuple #[.agg #[.int .i64 c, .int .i64 y, .func fn first cap], .bool true])) (setMap w b L)) (hN : RowKit.Hid (getU s L = none) → wpList P ops Q rest (a.put o.dst (.tuple #[z, .bool false])) (setMap w b L)) : wpList P ops Q (o :: rest) a (setMap w b L) :=
  wpList_look0 hg t m x hop k e hk ht z hz w b L hm hb s hx (fun v hv => by
    obtain ⟨c, y, fn, first, cap, rfl⟩ := hA s v hv
    exact hY c y fn first cap hv) hN
theorem wpList_lookT (hg : o.guard = none) (t : TypeId) (m x : Operand) (hop : o.op = Op.lookup t m x true) (k e : TypeId) (hk : P.underlying k = some .string) (ht : P.underlying t = some (.map k e)) (z : Value) (hz : ∀ w : World, (zeroValue e).run P w = .ok z w)
    (w : World) (b : Nat) (L : List (ByteArray × Value)) (hm : a.eval m = .map (some b)) (hb : b < w.heap.size) (s : ByteArray) (hx : a.eval x = .string s) (hA : AllV FunT L)
    (hY : ∀ (c : ByteArray) (y : Int) (fn : Fn) (first cap : Array Value), RowKit.Hid (getU s L = some (.agg #[.string c, .int .i64 y, .func fn first cap])) → wpList P ops Q rest (a.put o.dst (.tuple #[.agg #[.string c, .int .i64 y, .func fn first cap], .bool true])) (setMap w b L)) (hN : RowKit.Hid (getU s L = none) → wpList P ops Q rest (a.put o.dst (.tuple #[z, .bool false])) (setMap w b L)) : wpList P ops Q (o :: rest) a (setMap w b L) :=
  wpList_look0 hg t m x hop k e hk ht z hz w b L hm hb s hx (fun v hv => by
    obtain ⟨c, y, fn, first, cap, rfl⟩ := hA s v hv
    exact hY c y fn first cap hv) hN
theorem wpList_lookA (hg : o.guard = none) (t : TypeId) (m x : Operand) (hop : o.op = Op.lookup t m x true) (k e : TypeId) (hk : P.underlying k = some .string) (ht : P.underlying t = some (.map k e)) (z : Value) (hz : ∀ w : World, (zeroValue e).run P w = .ok z w)
    (w : World) (b : Nat) (L : List (ByteArray × Value)) (hm : a.eval m = .map (some b)) (hb : b < w.heap.size) (s : ByteArray) (hx : a.eval x = .string s) (hA : AllV FunA L)
    (hY : ∀ (c : ByteArray) (y y1 : Int) (fn : Fn) (first cap : Array Value), RowKit.Hid (getU s L = some (.agg #[.string c, .int .i64 y, .int .i64 y1, .func fn first cap])) → wpList P ops Q rest (a.put o.dst (.tuple #[.agg #[.string c, .int .i64 y, .int .i64 y1, .func fn first cap], .bool true])) (setMap w b L)) (hN : RowKit.Hid (getU s L = none) → wpList P ops Q rest (a.put o.dst (.tuple #[z, .bool false])) (setMap w b L)) : wpList P ops Q (o :: rest) a (setMap w b L) :=
  wpList_look0 hg t m x hop k e hk ht z hz w b L hm hb s hx (fun v hv => by
    obtain ⟨c, y, y1, fn, first, cap, rfl⟩ := hA s v hv
    exact hY c y y1 fn first cap hv) hN
theorem wpList_lookF (hg : o.guard = none) (t : TypeId) (m x : Operand) (hop : o.op = Op.lookup t m x true) (k e : TypeId) (hk : P.underlying k = some .string) (ht : P.underlying t = some (.map k e)) (z : Value) (hz : ∀ w : World, (zeroValue e).run P w = .ok z w)
    (w : World) (b : Nat) (L : List (ByteArray × Value)) (hm : a.eval m = .map (some b)) (hb : b < w.heap.size) (s : ByteArray) (hx : a.eval x = .string s) (hA : AllV FunF L)
    (hY : ∀ (fn : Fn) (first cap : Array Value) (fn1 : Fn) (first1 cap1 : Array Value), RowKit.Hid (getU s L = some (.agg #[.func fn first cap, .func fn1 first1 cap1])) → wpList P ops Q rest (a.put o.dst (.tuple #[.agg #[.func fn first cap, .func fn1 first1 cap1], .bool true])) (setMap w b L)) (hN : RowKit.Hid (getU s L = none) → wpList P ops Q rest (a.put o.dst (.tuple #[z, .bool false])) (setMap w b L)) : wpList P ops Q (o :: rest) a (setMap w b L) :=
  wpList_look0 hg t m x hop k e hk ht z hz w b L hm hb s hx (fun v hv => by
    obtain ⟨fn, first, cap, fn1, first1, cap1, rfl⟩ := hA s v hv
    exact hY fn first cap fn1 first1 cap1 hv) hN
theorem wpList_insU (t : TypeId) (m x v : Operand) {ty : TypeId} {pos : String} {after : Array Edge} (k e : TypeId) (hk : P.underlying k = some .string) (ht : P.underlying t = some (.map k e))
    (w : World) (b : Nat) (L : List (ByteArray × Value)) (hm : a.eval m = .map (some b)) (hb : b < w.heap.size) (s : ByteArray) (hx : a.eval x = .string s) (u : Value) (hv : a.eval v = u)
    (hK : wpList P ops Q rest a (setMap w b (ups s u L))) : wpList P ops Q (⟨none, .insert t m x v, ty, pos, after, none⟩ :: rest) a (setMap w b L) := by
  refine wpList_plain rfl fun K' hK' => ?_
  unfold Oper.wp
  simp [execOp, hm, hx, hv, run_storeS hk ht w hb s u L, Result.andThen]
  exact hK' _ _ hK
end
end Go.Proofs.YtegbhdeaicgpkaaGreatDoor
namespace Go.Proofs.YtegbhdeaicgpkaaGreatDoor
open Go Go.RowKit
inductive Doer where
  | plain (k : Nat)
  | truths (k : Nat)
  | tagged (t : Int)
def DoOK (w : World) (f : Value) : Doer → Prop
  | .plain k => f = .func (.func k) #[] #[]
  | .truths k => ∃ p, f = .func (.func 251) #[] #[.pointer (some ⟨p, 0, none⟩)] ∧ w.cell? ⟨p, 0, none⟩ = some (.func (.func k) #[] #[])
  | .tagged t => ∃ p, f = .func (.func 254) #[] #[.pointer (some ⟨p, 0, none⟩)] ∧ w.cell? ⟨p, 0, none⟩ = some (.int .i64 t) ∧ OneCell w p
def OwnE (w : World) (v : Value) (x y : Int) (d : Doer) : Prop := ∃ pl pm pd f, v = .agg #[.func (.func 248) #[] #[.pointer (some ⟨pl, 0, none⟩), .pointer (some ⟨pm, 0, none⟩)], .func (.func 249) #[] #[.pointer (some ⟨pd, 0, none⟩)]] ∧
  w.cell? ⟨pl, 0, none⟩ = some (.int .i64 x) ∧ w.cell? ⟨pm, 0, none⟩ = some (.int .i64 y) ∧ w.cell? ⟨pd, 0, none⟩ = some f ∧ DoOK w f d
theorem DoOK.keeps {w w' : World} {f : Value} {d : Doer} (h : DoOK w f d) (hk : Keeps w w') : DoOK w' f d := by
  cases d with
  | plain k => exact h
  | truths k => obtain ⟨p, h1, h2⟩ := h; exact ⟨p, h1, hk.cell _ _ _ h2⟩
  | tagged t => obtain ⟨p, h1, h2, h3⟩ := h; exact ⟨p, h1, hk.cell _ _ _ h2, hk.one _ h3⟩
theorem OwnE.keeps {w w' : World} {v : Value} {x y : Int} {d : Doer} (h : OwnE w v x y d) (hk : Keeps w w') : OwnE w' v x y d := by
  obtain ⟨pl, pm, pd, f, e, h1, h2, h3, h4⟩ := h
  exact ⟨pl, pm, pd, f, e, hk.cell _ _ _ h1, hk.cell _ _ _ h2, hk.cell _ _ _ h3, h4.keeps hk⟩
theorem funcs_singles (x y : Int) (fn : Fn) (cap : Array Value) (d : Doer) (w : World) (hd : DoOK w (.func fn #[] cap) d) : Calls Tryz.prog 205 #[.int .i64 x, .int .i64 y, .func fn #[] cap] w fun e w' => (∃ v, e = .returned v ∧ OwnE w' v x y d) ∧ Below w.heap.size w w' := by
  have HD := Lib.hid hd
  clear hd
  go_enter Tryz.func205, Tryz.ntmps205
  go_wp2
  go_returns
  refine ⟨⟨_, rfl, _, _, _, _, rfl, ?_, ?_, ?_, HD.out.keeps (by repeat (first | with_reducible exact keeps_refl _ | with_reducible assumption | with_reducible refine keeps_alloc ?_ _ | with_reducible refine keeps_more ?_ _ _ | with_reducible refine keeps_drew ?_ | with_reducible refine keeps_drewN ?_ _))⟩, (by (with_reducible repeat' (first | exact .refl _ _ | assumption | refine bmP ?_ ?_ | refine baP ?_ _ ?_ | refine .drew ?_ | refine .setCell ?_ ?_ _ | refine bdP ?_ _)) <;> go_size)⟩
  all_goals go_simp
theorem funcs_truths (k : Nat) (w : World) : Calls Tryz.prog 207 #[.func (.func k) #[] #[]] w fun e w' => (∃ fn cap, e = .returned (.func fn #[] cap) ∧ DoOK w' (.func fn #[] cap) (.truths k)) ∧ Below w.heap.size w w' := by
  go_enter Tryz.func207, Tryz.ntmps207
  go_wp2
  go_ret
  refine ⟨⟨_, _, rfl, _, rfl, ?_⟩, (by (with_reducible repeat' (first | exact .refl _ _ | assumption | refine bmP ?_ ?_ | refine baP ?_ _ ?_ | refine .drew ?_ | refine .setCell ?_ ?_ _ | refine bdP ?_ _)) <;> go_size)⟩
  go_simp
theorem funcs_is (t : Int) (w : World) : Calls Tryz.prog 213 #[.int .i64 t] w fun e w' => (∃ v, e = .returned v ∧ OwnE w' v 1 1 (.tagged t)) ∧ Below w.heap.size w w' := by
  go_enter Tryz.func213, Tryz.ntmps213
  go_wp2
  go_returns
  refine ⟨⟨_, rfl, _, _, _, _, rfl, ?_, ?_, ?_, w.heap.size, rfl, ?_, (show Keeps (w.alloc (.cells #[.int .i64 t] 26)) _ from (by repeat (first | with_reducible exact keeps_refl _ | with_reducible assumption | with_reducible refine keeps_alloc ?_ _ | with_reducible refine keeps_more ?_ _ _ | with_reducible refine keeps_drew ?_ | with_reducible refine keeps_drewN ?_ _))).one _ (one_alloc _ _ _)⟩, (by (with_reducible repeat' (first | exact .refl _ _ | assumption | refine bmP ?_ ?_ | refine baP ?_ _ ?_ | refine .drew ?_ | refine .setCell ?_ ?_ _ | refine bdP ?_ _)) <;> go_size)⟩
  all_goals go_simp
def ownTab (s : ByteArray) : Option (Int × Int × Doer) :=
  if (⟨#[65, 83, 75]⟩ : ByteArray) = s then some (1, 1, .plain 218) else
  if (⟨#[67, 72, 79, 79, 83, 69]⟩ : ByteArray) = s then some (2, 16, .plain 217) else
  if (⟨#[69, 82, 82]⟩ : ByteArray) = s then some (1, 1, .plain 216) else
  if (⟨#[69, 82, 82, 78, 79]⟩ : ByteArray) = s then some (1, 1, .plain 215) else
  if (⟨#[84, 89, 80, 69]⟩ : ByteArray) = s then some (1, 1, .plain 214) else
  if (⟨#[73, 83, 66, 79, 79, 76]⟩ : ByteArray) = s then some (1, 1, .tagged 3) else
  if (⟨#[73, 83, 84, 69, 88, 84]⟩ : ByteArray) = s then some (1, 1, .tagged 2) else
  if (⟨#[73, 83, 78, 85, 77]⟩ : ByteArray) = s then some (1, 1, .tagged 1) else
  if (⟨#[73, 83, 66, 76, 65, 78, 75]⟩ : ByteArray) = s then some (1, 1, .tagged 0) else
  if (⟨#[73, 83, 69, 82, 82]⟩ : ByteArray) = s then some (1, 1, .tagged 4) else
  if (⟨#[73, 70, 69, 82, 82]⟩ : ByteArray) = s then some (2, 2, .plain 212) else
  if (⟨#[78, 79, 84]⟩ : ByteArray) = s then some (1, 1, .truths 211) else
  if (⟨#[88, 79, 82]⟩ : ByteArray) = s then some (1, 16, .truths 210) else
  if (⟨#[79, 82]⟩ : ByteArray) = s then some (1, 16, .truths 209) else
  if (⟨#[65, 78, 68]⟩ : ByteArray) = s then some (1, 16, .truths 208) else
  if (⟨#[73, 70]⟩ : ByteArray) = s then some (2, 3, .plain 206) else none
def isOwn (s : ByteArray) : Bool :=
  if (⟨#[65, 83, 75]⟩ : ByteArray) = s then true else
  if (⟨#[67, 72, 79, 79, 83, 69]⟩ : ByteArray) = s then true else
  if (⟨#[69, 82, 82]⟩ : ByteArray) = s then true else
  if (⟨#[69, 82, 82, 78, 79]⟩ : ByteArray) = s then true else
  if (⟨#[84, 89, 80, 69]⟩ : ByteArray) = s then true else
  if (⟨#[73, 83, 66, 79, 79, 76]⟩ : ByteArray) = s then true else
  if (⟨#[73, 83, 84, 69, 88, 84]⟩ : ByteArray) = s then true else
  if (⟨#[73, 83, 78, 85, 77]⟩ : ByteArray) = s then true else
  if (⟨#[73, 83, 66, 76, 65, 78, 75]⟩ : ByteArray) = s then true else
  if (⟨#[73, 83, 69, 82, 82]⟩ : ByteArray) = s then true else
  if (⟨#[73, 70, 69, 82, 82]⟩ : ByteArray) = s then true else
  if (⟨#[78, 79, 84]⟩ : ByteArray) = s then true else
  if (⟨#[88, 79, 82]⟩ : ByteArray) = s then true else
  if (⟨#[79, 82]⟩ : ByteArray) = s then true else
  if (⟨#[65, 78, 68]⟩ : ByteArray) = s then true else
  if (⟨#[73, 70]⟩ : ByteArray) = s then true else false
def OwnInv (w0 : World) (b : Nat) (L : List (ByteArray × Value)) (w : World) : Prop := Below w0.heap.size w0 w ∧ w0.heap.size ≤ b ∧ w.heap[b]? = some (.map (ents L 0).toArray L.length) ∧
  (∀ s v, getU s L = some v → ∃ x y d, ownTab s = some (x, y, d) ∧ OwnE w v x y d) ∧ (L.map (·.1)).Nodup
theorem ups_keys (k : ByteArray) (v : Value) (L : List (ByteArray × Value)) : (k ∈ L.map (·.1) → (ups k v L).map (·.1) = L.map (·.1)) ∧ (¬ k ∈ L.map (·.1) → (ups k v L).map (·.1) = L.map (·.1) ++ [k]) := by
  induction L with
  | nil => exact ⟨(fun h => by simp at h), (fun _ => rfl)⟩
  | cons p L ih =>
    unfold ups
    by_cases h : p.1 = k
    · rw [if_pos h]
      exact ⟨fun _ => by simp [h], fun hn => absurd (by simp [h]) hn⟩
    · rw [if_neg h]
      refine ⟨fun hm => ?_, fun hn => ?_⟩
      · have hm' : k ∈ L.map (·.1) := by
          rw [List.map_cons, List.mem_cons] at hm
          exact hm.elim (fun e => absurd e.symm h) id
        rw [List.map_cons, ih.1 hm']; rfl
      · have hn' : ¬ k ∈ L.map (·.1) := fun hm => hn (List.mem_cons_of_mem _ hm)
        rw [List.map_cons, ih.2 hn']; rfl
theorem ups_nodup (k : ByteArray) (v : Value) {L : List (ByteArray × Value)} (h : (L.map (·.1)).Nodup) : ((ups k v L).map (·.1)).Nodup := by
  by_cases hm : k ∈ L.map (·.1)
  · rw [(ups_keys k v L).1 hm]; exact h
  · rw [(ups_keys k v L).2 hm]
    exact List.nodup_append.2 ⟨h, by simp, fun a ha b hb e => by simp at hb; subst hb; subst e; exact hm ha⟩
theorem ownInv_start (w : World) : OwnInv w w.heap.size [] (w.alloc (.map #[] 0)) :=
  ⟨(Below.refl _ _).alloc (Nat.le_refl _) _, Nat.le_refl _, by rw [(MapKept.heap_alloc w _).1]; rfl, (fun s v h => by cases h), List.nodup_nil⟩
theorem setMap_self {w : World} {b : Nat} {L : List (ByteArray × Value)} (h : w.heap[b]? = some (.map (ents L 0).toArray L.length)) : setMap w b L = w := by
  have hlt : b < w.heap.size := (Array.getElem?_eq_some_iff.1 h).1
  have e : w.heap.setIfInBounds b (.map (ents L 0).toArray L.length) = w.heap := by
    apply Array.ext_getElem?
    intro i
    rw [Array.getElem?_setIfInBounds]
    by_cases hi : b = i
    · subst hi; rw [if_pos rfl, if_pos hlt, h]
    · rw [if_neg hi]
  unfold setMap
  rw [e]
theorem keeps_setMap {w : World} {b : Nat} {L L' : List (ByteArray × Value)} (h : w.heap[b]? = some (.map (ents L 0).toArray L.length)) : Keeps w (setMap w b L') := by
  refine ⟨fun n i v hv => ?_, fun n hn => ⟨by simpa using hn.1, fun i v hv => ?_⟩⟩
  · by_cases e : b = n
    · subst e
      unfold World.cell? at hv
      rw [h] at hv
      cases hv
    · rw [setMap_cell e]; exact hv
  · by_cases e : b = n
    · subst e
      unfold World.cell? at hv
      rw [setMap_at (Array.getElem?_eq_some_iff.1 h).1] at hv
      cases hv
    · rw [setMap_cell e] at hv; exact hn.2 i v hv
theorem OwnInv.below {w0 w w1 : World} {b : Nat} {L : List (ByteArray × Value)} (h : OwnInv w0 b L w) (hb : Below w.heap.size w w1) : OwnInv w0 b L w1 := by
  obtain ⟨h1, h2, h3, h4, h5⟩ := h
  have hlt : b < w.heap.size := (Array.getElem?_eq_some_iff.1 h3).1
  refine ⟨h1.trans (hb.mono h1.size), h2, (hb.block b hlt).trans h3, fun s v hv => ?_, h5⟩
  obtain ⟨x, y, d, e, he⟩ := h4 s v hv
  exact ⟨x, y, d, e, he.keeps (keeps_below hb)⟩
theorem OwnInv.store {w0 w : World} {b : Nat} {L : List (ByteArray × Value)} {v : Value} {x y : Int} {d : Doer} (h : OwnInv w0 b L w) (s : ByteArray) (hE : OwnE w v x y d) (hs : ownTab s = some (x, y, d)) :
    (Instr.mapUpdate 79 (.map (some b)) (.string s) v).run Tryz.prog w = .ok () (setMap w b (ups s v L)) ∧ OwnInv w0 b (ups s v L) (setMap w b (ups s v L)) := by
  obtain ⟨h1, h2, h3, h4, h5⟩ := h
  have hlt : b < w.heap.size := (Array.getElem?_eq_some_iff.1 h3).1
  have hk : Keeps w (setMap w b (ups s v L)) := keeps_setMap h3
  refine ⟨?_, below_setMap h1 h2, h2, setMap_at hlt, fun s' v' hv => ?_, ups_nodup s v h5⟩
  · have := run_storeS (P := Tryz.prog) Tryz.underlying9 Tryz.underlying79 w hlt s v L
    rw [setMap_self h3] at this
    exact this
  · rw [getU_ups] at hv
    by_cases e : s = s'
    · subst e
      rw [if_pos rfl] at hv
      cases hv
      exact ⟨x, y, d, hs, hE.keeps hk⟩
    · rw [if_neg e] at hv
      obtain ⟨x', y', d', e', he⟩ := h4 s' v' hv
      exact ⟨x', y', d', e', he.keeps hk⟩
theorem isSome_ups (k s : ByteArray) (v : Value) (L : List (ByteArray × Value)) : (getU s (ups k v L)).isSome = if k = s then true else (getU s L).isSome := by
  rw [getU_ups]
  by_cases h : k = s <;> simp [h]
section
variable {ops : Array Oper} {rest : List Oper} {a : Act} {Q : Exit → Act → World → Prop}
theorem wpList_insI {w0 w : World} {b : Nat} {L : List (ByteArray × Value)} {v : Value} {x y : Int} {d : Doer} (h : OwnInv w0 b L w) (hE : OwnE w v x y d) (m k u : Operand) {ty : TypeId} {pos : String} {after : Array Edge} (s : ByteArray)
    (hm : a.eval m = .map (some b)) (hk : a.eval k = .string s) (hu : a.eval u = v) (hs : ownTab s = some (x, y, d)) (hK : ∀ w', OwnInv w0 b (ups s v L) w' → wpList Tryz.prog ops Q rest a w') :
    wpList Tryz.prog ops Q (⟨none, .insert 79 m k u, ty, pos, after, none⟩ :: rest) a w := by
  refine wpList_plain rfl fun K' hK' => ?_
  have h1 := (h.store s hE hs).1
  have h2 := (h.store s hE hs).2
  unfold Oper.wp
  simp [execOp, hm, hk, hu, h1, Result.andThen]
  exact hK' _ _ (hK _ h2)
end
def OwnSays (w : World) (e : Ending) (w' : World) : Prop := ∃ b L, e = .returned (.map (some b)) ∧ OwnInv w b L w' ∧ ∀ s, (getU s L).isSome = isOwn s
set_option maxRecDepth 100000 in
set_option maxHeartbeats 4000000 in
theorem funcs_own (w : World) : Calls Tryz.prog 141 #[] w fun e w' => OwnSays w e w' := by
  have hT := ownInv_start w
  have hmk := @run_makeMap Tryz.prog
  go_enter Tryz.func141, Tryz.ntmps141
  go_wp2_with (first
    | (go_at_call 205; refine (funcs_singles _ _ _ _ _ _ hF).mono ?_; clear hF; rintro e w1 ⟨⟨v, rfl, hE⟩, hb⟩; replace hT := hT.below hb; clear hb)
    | (go_at_call 205; refine (funcs_singles _ _ _ _ (.plain _) _ rfl).mono ?_; rintro e w1 ⟨⟨v, rfl, hE⟩, hb⟩; replace hT := hT.below hb; clear hb)
    | (go_at_call 213; refine (funcs_is _ _).mono ?_; rintro e w1 ⟨⟨v, rfl, hE⟩, hb⟩; replace hT := hT.below hb; clear hb)
    | (go_at_call 207; refine (funcs_truths _ _).mono ?_; rintro e w1 ⟨⟨fn, cap, rfl, hF⟩, hb⟩; replace hT := hT.below hb; clear hb)
    | (refine wpList_insI hT hE _ _ _ _ rfl rfl rfl (by kernel_rfl) ?_; clear hT hE; intro w2 hT))
  go_ret
  refine ⟨_, _, rfl, hT, fun s => ?_⟩
  simp only [isSome_ups]
  rfl
end Go.Proofs.YtegbhdeaicgpkaaGreatDoor
