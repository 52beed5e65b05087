/-
  A map with keys that are strings, in a block that is known: the very world behind each store, for the walk. Plain laws; no condition.
-/
import Derived.Test.YtpcihefhagipmaaGreatDoorMaps
import Derived.Test.YtpcihefhagipmaaGreatDoorKit
namespace Go.Proofs.YtpcihefhagipmaaGreatDoor
open Go Go.RowKit Go.MapKept

def ents : List (ByteArray × Value) → Nat → List MapEntry
  | [], _ => []
  | p :: L, i => ⟨.string p.1, p.2, i⟩ :: ents L (i + 1)
def findU (k : ByteArray) : List (ByteArray × Value) → Option (Nat × Value)
  | [] => none
  | p :: L => if p.1 = k then some (0, p.2) else (findU k L).map fun q => (q.1 + 1, q.2)
/-- a store -/
def ups (k : ByteArray) (v : Value) : List (ByteArray × Value) → List (ByteArray × Value)
  | [] => [(k, v)]
  | p :: L => if p.1 = k then (k, v) :: L else p :: ups k v L
def getU (k : ByteArray) (L : List (ByteArray × Value)) : Option Value := (findU k L).map (·.2)

theorem getU_ups (k k' : ByteArray) (v : Value) (L : List (ByteArray × Value)) : getU k' (ups k v L) = if k = k' then some v else getU k' L := by
  induction L with
  | nil => by_cases h : k = k' <;> simp [getU, ups, findU, h]
  | cons p L ih =>
    unfold ups
    by_cases h : p.1 = k
    · rw [if_pos h]
      by_cases h' : k = k'
      · simp [getU, findU, h']
      · have : p.1 ≠ k' := fun e => h' (h.symm.trans e)
        simp [getU, findU, h', this]
    · rw [if_neg h]
      by_cases h' : p.1 = k'
      · have : k ≠ k' := fun e => h (h'.trans e.symm)
        simp [getU, findU, h', this]
      · have e1 : ∀ M, getU k' (p :: M) = getU k' M := fun M => by simp [getU, findU, h', Function.comp_def]
        rw [e1, e1, ih]

theorem len_ents (L : List (ByteArray × Value)) : ∀ i, (ents L i).length = L.length := by
  induction L with
  | nil => exact fun _ => rfl
  | cons p L ih => exact fun i => by simp [ents, ih]
theorem key_ents (L : List (ByteArray × Value)) : ∀ i, ∀ x ∈ ents L i, IsKey .string x.key := by
  induction L with
  | nil => intro i x hx; simp [ents] at hx
  | cons p L ih =>
    intro i x hx
    simp only [ents, List.mem_cons] at hx
    rcases hx with rfl | hx
    · simp [IsKey]
    · exact ih _ x hx
theorem find_ents (k : ByteArray) (L : List (ByteArray × Value)) : ∀ b i, Instr.findNow .string (.string k) (ents L b) i = some ((findU k L).map fun q => (i + q.1, q.2)) := by
  induction L with
  | nil => exact fun _ _ => rfl
  | cons p L ih =>
    intro b i
    by_cases h : p.1 = k
    · have hb : (k == p.1) = true := by rw [h]; exact (bytes_beq k k).2 rfl
      simp [ents, Instr.findNow, Instr.sameNow, findU, h, hb]
      rw [← h] at hb ⊢
      simp [hb]
    · have hb : (k == p.1) = false := by
        cases hc : (k == p.1) with
        | false => rfl
        | true => exact absurd ((bytes_beq k p.1).1 hc).symm h
      simp only [ents, Instr.findNow, Instr.sameNow, hb, findU, if_neg h, ih, Option.map_map]
      congr 2
      funext q
      simp only [Function.comp]
      rw [Nat.add_assoc, Nat.add_comm 1]
theorem ents_ups (k : ByteArray) (v : Value) (L : List (ByteArray × Value)) : ∀ i, match findU k L with
    | some q => ents (ups k v L) i = (ents L i).modify q.1 (fun e => { e with key := .string k, val := v }) ∧ (ups k v L).length = L.length ∧ (ents L i)[q.1]?.map (·.key) = some (.string k)
    | none => ents (ups k v L) i = ents L i ++ [⟨.string k, v, i + L.length⟩] ∧ (ups k v L).length = L.length + 1 := by
  induction L with
  | nil => intro i; simp [findU, ups, ents]
  | cons p L ih =>
    intro i
    by_cases h : p.1 = k
    · simp [findU, ups, ents, h, List.modify]
    · have := ih (i + 1)
      simp only [findU, if_neg h, ups]
      cases hf : findU k L with
      | none =>
        rw [hf] at this
        simp only [Option.map_none]
        obtain ⟨h1, h2⟩ := this
        exact ⟨by simp [ents, h1]; omega, by simp [h2]⟩
      | some q =>
        rw [hf] at this
        simp only [Option.map_some]
        obtain ⟨h1, h2, h3⟩ := this
        refine ⟨?_, by simp [h2], ?_⟩
        · simp only [ents, h1]; rfl
        · simpa [ents] using h3

/-- The world w, but that block b is a map that holds L. -/
def setMap (w : World) (b : Nat) (L : List (ByteArray × Value)) : World := { w with heap := w.heap.setIfInBounds b (.map (ents L 0).toArray L.length) }

section
variable {w : World} {b n i : Nat} {L : List (ByteArray × Value)} {v : Value}
theorem setMap_at (h : b < w.heap.size) : (setMap w b L).heap[b]? = some (.map (ents L 0).toArray L.length) := by simp [setMap, h]
theorem setMap_other (h : b ≠ n) : (setMap w b L).heap[n]? = w.heap[n]? := by simp [setMap, h]
@[simp, go_sem] theorem setMap_size : (setMap w b L).heap.size = w.heap.size := by simp [setMap]
@[go_sem] theorem setMap_cell (h : b ≠ n) : (setMap w b L).cell? ⟨n, i, none⟩ = w.cell? ⟨n, i, none⟩ := World.cell?_of_block (a := ⟨n, i, none⟩) (setMap_other h)
@[go_sem] theorem setMap_frozen (h : b ≠ n) : (setMap w b L).frozen? ⟨n, i, none⟩ = w.frozen? ⟨n, i, none⟩ := World.frozen?_of_block (a := ⟨n, i, none⟩) (setMap_other h)
@[go_sem] theorem setMap_setCell (h : b ≠ n) : (setMap w b L).setCell ⟨n, i, none⟩ v = setMap (w.setCell ⟨n, i, none⟩ v) b L := by
  unfold setMap World.setCell
  congr 1
  apply Array.ext_getElem?
  intro k
  simp only [Array.getElem?_modify, Array.getElem?_setIfInBounds, Array.size_modify]
  by_cases h1 : n = k
  · subst h1
    simp [h]
  · rw [if_neg h1]
    by_cases h2 : b = k
    · rw [if_pos h2, if_pos h2]
    · rw [if_neg h2, if_neg h2, if_neg h1]
@[go_sem] theorem setMap_alloc (o : Obj) (h : b < w.heap.size) : (setMap w b L).alloc o = setMap (w.alloc o) b L := by
  unfold setMap World.alloc
  congr 1
  apply Array.ext_getElem?
  intro k
  simp only [Array.getElem?_push, Array.getElem?_setIfInBounds, Array.size_setIfInBounds, Array.size_push]
  by_cases h1 : k = w.heap.size
  · subst h1
    simp [Nat.ne_of_lt h]
  · simp only [if_neg h1]
    by_cases h2 : b = k
    · subst h2; simp [h]; omega
    · simp [h2]
@[go_sem] theorem drew_setMap : setMap w.drew b L = (setMap w b L).drew := rfl
@[go_sem] theorem setMap_more {l : List Obj} (h : b < w.heap.size) : more (setMap w b L) l n = setMap (more w l n) b L := by
  unfold setMap more
  congr 1
  apply Array.ext_getElem?
  intro k
  simp only [Array.getElem?_append, Array.getElem?_setIfInBounds, Array.size_setIfInBounds, Array.size_append]
  by_cases h2 : b = k
  · subst h2; simp [h]; omega
  · by_cases h3 : k < w.heap.size <;> simp [h2, h3]
theorem below_setMap {B : Nat} {a : World} (h : Below B a w) (hB : B ≤ b) : Below B a (setMap w b L) :=
  h.trans ⟨rfl, rfl, rfl, by simp, fun k hk => setMap_other (by omega)⟩

variable {P : Program} {k e t : TypeId}
theorem run_makeMapS (w : World) (t : TypeId) : (Instr.makeMap t none).run P w = .ok (.map (some w.heap.size)) (setMap (w.alloc (.map #[] 0)) w.heap.size []) := by
  have e : setMap (w.alloc (.map #[] 0)) w.heap.size [] = w.alloc (.map #[] 0) := by
    unfold setMap World.alloc
    congr 1
    apply Array.ext_getElem?
    intro k
    simp only [Array.getElem?_push, Array.getElem?_setIfInBounds, Array.size_push]
    by_cases h : w.heap.size = k
    · subst h; simp [ents]
    · simp [h, Ne.symm h]
  rw [e]
  exact run_makeMap t w
theorem run_storeS (hk : P.underlying k = some .string) (ht : P.underlying t = some (.map k e)) (w : World) (h : b < w.heap.size) (s : ByteArray) (v : Value) (L : List (ByteArray × Value)) :
    (Instr.mapUpdate t (.map (some b)) (.string s) v).run P (setMap w b L) = .ok () (setMap w b (ups s v L)) := by
  have hb := setMap_at (L := L) h
  have hf := find_ents s L 0 0
  have he := ents_ups s v L 0
  have hke : IsKey .string (.string s) := by simp [IsKey]
  have hset : ∀ o : Obj, (setObj b o).run P (setMap w b L) = .ok () { w with heap := w.heap.setIfInBounds b o } := by
    intro o
    rw [MapKept.run_setObj_map _ hb]
    unfold setMap
    simp
  cases hq : findU s L with
  | none =>
    rw [hq] at hf he
    simp only [Option.map_none] at hf he
    simp [Instr.mapUpdate, run_underlying ht, MapKept.run_getObj_map hb, run_checkKey hk hke, run_findKey hk hf, hset, Result.andThen]
    unfold setMap
    rw [he.1, he.2]
    simp
  | some q =>
    rw [hq] at hf he
    simp only [Option.map_some, Nat.zero_add] at hf he
    obtain ⟨h1, h2, h3⟩ := he
    have hkey : (((ents L 0).toArray[q.1]?).map (·.key)).getD (.string s) = .string s := by
      rw [List.getElem?_toArray, h3]; rfl
    simp only [Instr.mapUpdate, Sem.run_bind, run_underlying ht, Result.andThen, MapKept.run_getObj_map hb, run_checkKey hk hke, List.toList_toArray]
    rw [run_findKey hk hf]
    simp only [hkey, run_keyThatStays hke, hset, Sem.run_bind, Result.andThen]
    unfold setMap
    rw [h1, h2]
    simp
theorem run_lookS (hk : P.underlying k = some .string) (ht : P.underlying t = some (.map k e)) (z : Value) (hz : ∀ w : World, (zeroValue e).run P w = .ok z w) (w : World) (h : b < w.heap.size) (s : ByteArray) (L : List (ByteArray × Value)) :
    (Instr.lookup t (.map (some b)) (.string s) true).run P (setMap w b L) = .ok (.tuple #[(getU s L).getD z, .bool (getU s L).isSome]) (setMap w b L) := by
  have hb := setMap_at (L := L) h
  have hf := find_ents s L 0 0
  have hke : IsKey .string (.string s) := by simp [IsKey]
  unfold getU
  cases hq : findU s L with
  | none =>
    rw [hq] at hf
    simp only [Option.map_none] at hf
    simp [Instr.lookup, run_underlying ht, MapKept.run_getObj_map hb, run_checkKey hk hke, run_findKey hk hf, hz, Result.andThen]
  | some q =>
    rw [hq] at hf
    simp only [Option.map_some] at hf
    simp [Instr.lookup, run_underlying ht, MapKept.run_getObj_map hb, run_checkKey hk hke, run_findKey hk hf, Result.andThen]
end

theorem bind_ups {α : Type} (g : Value → Option α) (k s : ByteArray) (v : Value) (L : List (ByteArray × Value)) : (getU s (ups k v L)).bind g = if k = s then g v else (getU s L).bind g := by
  rw [getU_ups]
  by_cases h : k = s <;> simp [h]
theorem bind_nil {α : Type} (g : Value → Option α) (s : ByteArray) : (getU s []).bind g = none := rfl

def AllV (Q : Value → Prop) (L : List (ByteArray × Value)) : Prop := ∀ s v, getU s L = some v → Q v
theorem AllV.nil (Q : Value → Prop) : AllV Q [] := fun s v h => by cases h
theorem AllV.ups {Q : Value → Prop} {k : ByteArray} {u : Value} {L : List (ByteArray × Value)} (h : AllV Q L) (hu : Q u) : AllV Q (ups k u L) := fun s v hv => by
  rw [getU_ups] at hv
  by_cases e : k = s
  · rw [if_pos e] at hv; cases hv; exact hu
  · rw [if_neg e] at hv; exact h s v hv

def FunN (v : Value) : Prop := ∃ (x y : Int) (fn : Fn) (first cap : Array Value), v = .agg #[.int .i64 x, .int .i64 y, .func fn first cap]
def FunT (v : Value) : Prop := ∃ (x : ByteArray) (y : Int) (fn : Fn) (first cap : Array Value), v = .agg #[.string x, .int .i64 y, .func fn first cap]
def FunA (v : Value) : Prop := ∃ (x : ByteArray) (y z : Int) (fn : Fn) (first cap : Array Value), v = .agg #[.string x, .int .i64 y, .int .i64 z, .func fn first cap]
def FunF (v : Value) : Prop := ∃ (fn : Fn) (first cap : Array Value) (fn1 : Fn) (first1 cap1 : Array Value), v = .agg #[.func fn first cap, .func fn1 first1 cap1]
theorem funN (x y : Int) (fn : Fn) (first cap : Array Value) : FunN (.agg #[.int .i64 x, .int .i64 y, .func fn first cap]) := ⟨x, y, fn, first, cap, rfl⟩
theorem funT (x : ByteArray) (y : Int) (fn : Fn) (first cap : Array Value) : FunT (.agg #[.string x, .int .i64 y, .func fn first cap]) := ⟨x, y, fn, first, cap, rfl⟩
theorem funA (x : ByteArray) (y z : Int) (fn : Fn) (first cap : Array Value) : FunA (.agg #[.string x, .int .i64 y, .int .i64 z, .func fn first cap]) := ⟨x, y, z, fn, first, cap, rfl⟩
theorem funF (fn : Fn) (first cap : Array Value) (fn1 : Fn) (first1 cap1 : Array Value) : FunF (.agg #[.func fn first cap, .func fn1 first1 cap1]) := ⟨fn, first, cap, fn1, first1, cap1, rfl⟩

section
variable {P : Program} {ops : Array Oper} {rest : List Oper} {o : Oper} {a : Act} {Q : Exit → Act → World → Prop}
/-- 'v, ok := m[k]', at the operation: found, or not. -/
theorem wpList_look0 (hg : o.guard = none) (t : TypeId) (m x : Operand) (hop : o.op = Op.lookup t m x true) (k e : TypeId) (hk : P.underlying k = some .string) (ht : P.underlying t = some (.map k e)) (z : Value) (hz : ∀ w : World, (zeroValue e).run P w = .ok z w)
    (w : World) (b : Nat) (L : List (ByteArray × Value)) (hm : a.eval m = .map (some b)) (hb : b < w.heap.size) (s : ByteArray) (hx : a.eval x = .string s)
    (hY : ∀ v, getU s L = some v → wpList P ops Q rest (a.put o.dst (.tuple #[v, .bool true])) (setMap w b L)) (hN : getU s L = none → wpList P ops Q rest (a.put o.dst (.tuple #[z, .bool false])) (setMap w b L)) : wpList P ops Q (o :: rest) a (setMap w b L) := by
  refine wpList_plain hg fun K' hK' => ?_
  unfold Oper.wp
  simp [execOp, hop, hm, hx, run_lookS hk ht z hz w hb s L, Result.andThen]
  cases h : getU s L with
  | none => exact hK' _ _ (hN h)
  | some v => exact hK' _ _ (hY v h)
theorem wpList_lookN (hg : o.guard = none) (t : TypeId) (m x : Operand) (hop : o.op = Op.lookup t m x true) (k e : TypeId) (hk : P.underlying k = some .string) (ht : P.underlying t = some (.map k e)) (z : Value) (hz : ∀ w : World, (zeroValue e).run P w = .ok z w)
    (w : World) (b : Nat) (L : List (ByteArray × Value)) (hm : a.eval m = .map (some b)) (hb : b < w.heap.size) (s : ByteArray) (hx : a.eval x = .string s) (hA : AllV FunN L)
    (hY : ∀ (c y : Int) (fn : Fn) (first cap : Array Value), RowKit.Hid (getU s L = some (.agg #[.int .i64 c, .int .i64 y, .func fn first cap])) → wpList P ops Q rest (a.put o.dst (.tuple #[.agg #[.int .i64 c, .int .i64 y, .func fn first cap], .bool true])) (setMap w b L)) (hN : RowKit.Hid (getU s L = none) → wpList P ops Q rest (a.put o.dst (.tuple #[z, .bool false])) (setMap w b L)) : wpList P ops Q (o :: rest) a (setMap w b L) :=
  wpList_look0 hg t m x hop k e hk ht z hz w b L hm hb s hx (fun v hv => by
    obtain ⟨c, y, fn, first, cap, rfl⟩ := hA s v hv
    exact hY c y fn first cap hv) hN
theorem wpList_lookT (hg : o.guard = none) (t : TypeId) (m x : Operand) (hop : o.op = Op.lookup t m x true) (k e : TypeId) (hk : P.underlying k = some .string) (ht : P.underlying t = some (.map k e)) (z : Value) (hz : ∀ w : World, (zeroValue e).run P w = .ok z w)
    (w : World) (b : Nat) (L : List (ByteArray × Value)) (hm : a.eval m = .map (some b)) (hb : b < w.heap.size) (s : ByteArray) (hx : a.eval x = .string s) (hA : AllV FunT L)
    (hY : ∀ (c : ByteArray) (y : Int) (fn : Fn) (first cap : Array Value), RowKit.Hid (getU s L = some (.agg #[.string c, .int .i64 y, .func fn first cap])) → wpList P ops Q rest (a.put o.dst (.tuple #[.agg #[.string c, .int .i64 y, .func fn first cap], .bool true])) (setMap w b L)) (hN : RowKit.Hid (getU s L = none) → wpList P ops Q rest (a.put o.dst (.tuple #[z, .bool false])) (setMap w b L)) : wpList P ops Q (o :: rest) a (setMap w b L) :=
  wpList_look0 hg t m x hop k e hk ht z hz w b L hm hb s hx (fun v hv => by
    obtain ⟨c, y, fn, first, cap, rfl⟩ := hA s v hv
    exact hY c y fn first cap hv) hN
theorem wpList_lookA (hg : o.guard = none) (t : TypeId) (m x : Operand) (hop : o.op = Op.lookup t m x true) (k e : TypeId) (hk : P.underlying k = some .string) (ht : P.underlying t = some (.map k e)) (z : Value) (hz : ∀ w : World, (zeroValue e).run P w = .ok z w)
    (w : World) (b : Nat) (L : List (ByteArray × Value)) (hm : a.eval m = .map (some b)) (hb : b < w.heap.size) (s : ByteArray) (hx : a.eval x = .string s) (hA : AllV FunA L)
    (hY : ∀ (c : ByteArray) (y y1 : Int) (fn : Fn) (first cap : Array Value), RowKit.Hid (getU s L = some (.agg #[.string c, .int .i64 y, .int .i64 y1, .func fn first cap])) → wpList P ops Q rest (a.put o.dst (.tuple #[.agg #[.string c, .int .i64 y, .int .i64 y1, .func fn first cap], .bool true])) (setMap w b L)) (hN : RowKit.Hid (getU s L = none) → wpList P ops Q rest (a.put o.dst (.tuple #[z, .bool false])) (setMap w b L)) : wpList P ops Q (o :: rest) a (setMap w b L) :=
  wpList_look0 hg t m x hop k e hk ht z hz w b L hm hb s hx (fun v hv => by
    obtain ⟨c, y, y1, fn, first, cap, rfl⟩ := hA s v hv
    exact hY c y y1 fn first cap hv) hN
theorem wpList_lookF (hg : o.guard = none) (t : TypeId) (m x : Operand) (hop : o.op = Op.lookup t m x true) (k e : TypeId) (hk : P.underlying k = some .string) (ht : P.underlying t = some (.map k e)) (z : Value) (hz : ∀ w : World, (zeroValue e).run P w = .ok z w)
    (w : World) (b : Nat) (L : List (ByteArray × Value)) (hm : a.eval m = .map (some b)) (hb : b < w.heap.size) (s : ByteArray) (hx : a.eval x = .string s) (hA : AllV FunF L)
    (hY : ∀ (fn : Fn) (first cap : Array Value) (fn1 : Fn) (first1 cap1 : Array Value), RowKit.Hid (getU s L = some (.agg #[.func fn first cap, .func fn1 first1 cap1])) → wpList P ops Q rest (a.put o.dst (.tuple #[.agg #[.func fn first cap, .func fn1 first1 cap1], .bool true])) (setMap w b L)) (hN : RowKit.Hid (getU s L = none) → wpList P ops Q rest (a.put o.dst (.tuple #[z, .bool false])) (setMap w b L)) : wpList P ops Q (o :: rest) a (setMap w b L) :=
  wpList_look0 hg t m x hop k e hk ht z hz w b L hm hb s hx (fun v hv => by
    obtain ⟨fn, first, cap, fn1, first1, cap1, rfl⟩ := hA s v hv
    exact hY fn first cap fn1 first1 cap1 hv) hN
/-- A literal's entry, at the operation. -/
theorem wpList_insU (t : TypeId) (m x v : Operand) {ty : TypeId} {pos : String} {after : Array Edge} (k e : TypeId) (hk : P.underlying k = some .string) (ht : P.underlying t = some (.map k e))
    (w : World) (b : Nat) (L : List (ByteArray × Value)) (hm : a.eval m = .map (some b)) (hb : b < w.heap.size) (s : ByteArray) (hx : a.eval x = .string s) (u : Value) (hv : a.eval v = u)
    (hK : wpList P ops Q rest a (setMap w b (ups s u L))) : wpList P ops Q (⟨none, .insert t m x v, ty, pos, after, none⟩ :: rest) a (setMap w b L) := by
  refine wpList_plain rfl fun K' hK' => ?_
  unfold Oper.wp
  simp [execOp, hm, hx, hv, run_storeS hk ht w hb s u L, Result.andThen]
  exact hK' _ _ hK
end
end Go.Proofs.YtpcihefhagipmaaGreatDoor
