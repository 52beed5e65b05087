/-
  Parts of a proof: Maps, Kit, Dec, May, Bools.
-/
import Derived.WalkKit
import Derived.Maps.OwnSet
import Derived.Handy
import Derived.Lib.Hide
import Derived.Deep.Draws
import Derived.WalkLawsBesides
import Derived.Test.YtegbhdeaicgpkaaGreatDoorProg
import Derived.Deep.QuietTactic
import Derived.BigQuiet
import Derived.Deep.RegionWith
import Derived.Deep.RegionHeld3
import Derived.BigGuardPart
set_option linter.all false
namespace Go.Proofs.YtegbhdeaicgpkaaGreatDoor
open Go Go.Maps Go.WideMaps
def rdv (v : Value) : Option (DataW Value × List MemPlace) := some (.held v, [])
def mkD (es : List (ByteArray × Value)) : DataW Value := es.foldl (fun D p => D.put (.string p.1.data.toList) (.held p.2)) (.map [])
def getS (es : List (ByteArray × Value)) (k : ByteArray) : Option Value := es.foldl (fun o p => if p.1 = k then some p.2 else o) none
theorem getS_snoc (es : List (ByteArray × Value)) (s k : ByteArray) (v : Value) : getS (es ++ [(s, v)]) k = if s = k then some v else getS es k := by
  simp [getS, List.foldl_append]
theorem mkD_snoc (es : List (ByteArray × Value)) (s : ByteArray) (v : Value) : mkD (es ++ [(s, v)]) = (mkD es).put (.string s.data.toList) (.held v) := by
  simp [mkD, List.foldl_append]
theorem bytes_inj {a b : ByteArray} (h : a.data.toList = b.data.toList) : a = b := by
  obtain ⟨⟨x⟩⟩ := a; obtain ⟨⟨y⟩⟩ := b; simp at h; rw [h]
theorem mkD_isMap (es : List (ByteArray × Value)) : IsMap (mkD es) := by
  unfold mkD
  generalize hD : (DataW.map [] : DataW Value) = D
  have hm : IsMap D := by rw [← hD]; exact isMap_empty
  clear hD
  induction es generalizing D with
  | nil => exact hm
  | cons p es ih => exact ih _ (hm.put _ _)
theorem spec_fold (es : List (ByteArray × Value)) (k : ByteArray) (z : Value) : ∀ (D : DataW Value) (o : Option Value), IsMap D → Maps.has D (.string k.data.toList) = o.isSome → D.atKey (.string k.data.toList) (.held z) = .held (o.getD z) →
    Maps.has (es.foldl (fun D p => D.put (.string p.1.data.toList) (.held p.2)) D) (.string k.data.toList) = (es.foldl (fun o p => if p.1 = k then some p.2 else o) o).isSome ∧
    (es.foldl (fun D p => D.put (.string p.1.data.toList) (.held p.2)) D).atKey (.string k.data.toList) (.held z) = .held ((es.foldl (fun o p => if p.1 = k then some p.2 else o) o).getD z) := by
  induction es with
  | nil => exact fun D o _ h1 h2 => ⟨h1, h2⟩
  | cons p es ih =>
    intro D o hm h1 h2
    obtain ⟨s, v⟩ := p
    refine ih _ _ (hm.put _ _) ?_ ?_
    · by_cases h : s = k
      · subst h
        simp only [if_true]
        rw [has_put_same hm (by simp [WideAt.IsKeyLit])]; rfl
      · have hne : (Lit.string k.data.toList) ≠ .string s.data.toList := fun e => h (bytes_inj (by injection e with e; exact e.symm))
        simp only [if_neg h]
        rw [has_put_other hne, h1]
    · by_cases h : s = k
      · subst h
        simp only [if_true]
        rw [atKey_put_same hm (by simp [WideAt.IsKeyLit])]; rfl
      · have hne : (Lit.string k.data.toList) ≠ .string s.data.toList := fun e => h (bytes_inj (by injection e with e; exact e.symm))
        simp only [if_neg h]
        rw [atKey_put_other hne, h2]
theorem mkD_spec (es : List (ByteArray × Value)) (k : ByteArray) (z : Value) :
    Maps.has (mkD es) (.string k.data.toList) = (getS es k).isSome ∧ (mkD es).atKey (.string k.data.toList) (.held z) = .held ((getS es k).getD z) :=
  spec_fold es k z _ _ isMap_empty rfl rfl
def StrMap (P : Program) (k : TypeId) (w : World) (b : Nat) (es : List (ByteArray × Value)) : Prop := w.ownsMap P k rdv b es.length (mkD es)
section
variable {P : Program} {k e t : TypeId} {w w' : World} {b : Nat} {es : List (ByteArray × Value)}
theorem StrMap.made (P : Program) (k : TypeId) (w : World) : StrMap P k (w.alloc (.map #[] 0)) w.heap.size [] := World.ownsMap_made w P k rdv
theorem StrMap.lt (h : StrMap P k w b es) : b < w.heap.size := World.ownsMap.lt h
theorem StrMap.alloc (h : StrMap P k w b es) (o : Obj) : StrMap P k (w.alloc o) b es := World.ownsMap.alloc h o
theorem StrMap.drew (h : StrMap P k w b es) : StrMap P k w.drew b es := h
theorem StrMap.grown {row : Option Nat} (h : StrMap P k w b es) (hg : w.grownBy w' row) (hne : some b ≠ row) : StrMap P k w' b es := World.ownsMap.kept h hg hne
theorem StrMap.below {B : Nat} (h : StrMap P k w b es) (hb : RowKit.Below B w w') (hlt : b < B) : StrMap P k w' b es := by
  obtain ⟨xs, clock, hx, r⟩ := h
  exact ⟨xs, clock, (hb.block b hlt).trans hx, r⟩
theorem StrMap.setCell (h : StrMap P k w b es) {a : Addr} (ha : b ≠ a.block) (u : Value) : StrMap P k (w.setCell a u) b es := World.ownsMap.setCell h ha u
theorem StrMap.look (h : StrMap P k w b es) (hk : P.underlying k = some .string) (ht : P.underlying t = some (.map k e)) {z : Value} (hz : (zeroValue e).run P w = .ok z w) (s : ByteArray) (hs : s.size ≤ maxLen) :
    (Instr.lookup t (.map (some b)) (.string s) true).run P w = .ok (.tuple #[(getS es s).getD z, .bool (getS es s).isSome]) w := by
  obtain ⟨v, ps, hrun, hv⟩ := World.ownsMap.look_ok h (string_keyed hk) ht hz (zd := .held z) (zp := []) rfl (keyOf_string_mk hk hs)
  obtain ⟨h1, h2⟩ := mkD_spec es s z
  rw [hrun, h1]
  rw [h2] at hv
  simp only [rdv, Option.some.injEq, Prod.mk.injEq, DataW.held.injEq] at hv
  rw [hv.1]
theorem StrMap.look1 (h : StrMap P k w b es) (hk : P.underlying k = some .string) (ht : P.underlying t = some (.map k e)) {z : Value} (hz : (zeroValue e).run P w = .ok z w) (s : ByteArray) (hs : s.size ≤ maxLen) :
    (Instr.lookup t (.map (some b)) (.string s) false).run P w = .ok ((getS es s).getD z) w := by
  obtain ⟨v, ps, hrun, hv⟩ := World.ownsMap.lookup h (string_keyed hk) ht hz (zd := .held z) (zp := []) rfl (keyOf_string_mk hk hs)
  obtain ⟨_, h2⟩ := mkD_spec es s z
  rw [hrun]
  rw [h2] at hv
  simp only [rdv, Option.some.injEq, Prod.mk.injEq, DataW.held.injEq] at hv
  rw [hv.1]
theorem StrMap.update (h : StrMap P k w b es) (hk : P.underlying k = some .string) (ht : P.underlying t = some (.map k e)) (hn : es.length < maxLen) (s : ByteArray) (hs : s.size ≤ maxLen) (v : Value) :
    ∃ w', (Instr.mapUpdate t (.map (some b)) (.string s) v).run P w = .ok () w' ∧ StrMap P k w' b (es ++ [(s, v)]) ∧ w.grownBy w' (some b) := by
  obtain ⟨w', hrun, h1, h2⟩ := World.ownsMap.update h (string_keyed hk) ht hn (val := v) (d := .held v) (ps := []) (keyOf_string_mk hk hs) rfl
  refine ⟨w', hrun, ?_, h2⟩
  unfold StrMap
  rw [mkD_snoc, List.length_append]
  exact h1
end
section
variable {P : Program} {ops : Array Oper} {rest : List Oper} {o : Oper} {a : Act} {Q : Exit → Act → World → Prop}
theorem wpList_insertS (w : World) (hg : o.guard = none) (t : TypeId) (m x v : Operand) (hop : o.op = Op.insert t m x v) (k e : TypeId) (hk : P.underlying k = some .string) (ht : P.underlying t = some (.map k e)) (b : Nat) (es : List (ByteArray × Value))
    (hm : a.eval m = .map (some b)) (h : StrMap P k w b es) (hn : es.length < maxLen) (s : ByteArray) (hx : a.eval x = .string s) (hs : s.size ≤ maxLen) (u : Value) (hv : a.eval v = u)
    (hK : ∀ w', StrMap P k w' b (es ++ [(s, u)]) → w.grownBy w' (some b) → wpList P ops Q rest (a.put o.dst undef) w') : wpList P ops Q (o :: rest) a w := by
  refine wpList_plain hg fun K' hK' => ?_
  obtain ⟨w', hrun, r1, r2⟩ := h.update hk ht hn s hs u
  unfold Oper.wp
  simp [execOp, hop, hm, hx, hv, hrun, Result.andThen]
  exact hK' _ _ (hK w' r1 r2)
theorem wpList_updateS (w : World) (hg : o.guard = none) (t : TypeId) (m x v : Operand) (hop : o.op = Op.mapUpdate t m x v) (k e : TypeId) (hk : P.underlying k = some .string) (ht : P.underlying t = some (.map k e)) (b : Nat) (es : List (ByteArray × Value))
    (hm : a.eval m = .map (some b)) (h : StrMap P k w b es) (hn : es.length < maxLen) (s : ByteArray) (hx : a.eval x = .string s) (hs : s.size ≤ maxLen) (u : Value) (hv : a.eval v = u)
    (hK : ∀ w', StrMap P k w' b (es ++ [(s, u)]) → w.grownBy w' (some b) → wpList P ops Q rest (a.put o.dst undef) w') : wpList P ops Q (o :: rest) a w := by
  refine wpList_plain hg fun K' hK' => ?_
  obtain ⟨w', hrun, r1, r2⟩ := h.update hk ht hn s hs u
  unfold Oper.wp
  simp [execOp, hop, hm, hx, hv, hrun, Result.andThen]
  exact hK' _ _ (hK w' r1 r2)
theorem wpList_lookS (w : World) (hg : o.guard = none) (t : TypeId) (m x : Operand) (hop : o.op = Op.lookup t m x true) (k e : TypeId) (hk : P.underlying k = some .string) (ht : P.underlying t = some (.map k e)) {z : Value} (hz : (zeroValue e).run P w = .ok z w) (b : Nat) (es : List (ByteArray × Value))
    (hm : a.eval m = .map (some b)) (h : StrMap P k w b es) (s : ByteArray) (hx : a.eval x = .string s) (hs : s.size ≤ maxLen)
    (hK : wpList P ops Q rest (a.put o.dst (.tuple #[(getS es s).getD z, .bool (getS es s).isSome])) w) : wpList P ops Q (o :: rest) a w := by
  refine wpList_plain hg fun K' hK' => ?_
  unfold Oper.wp
  simp [execOp, hop, hm, hx, h.look hk ht hz s hs, Result.andThen]
  exact hK' _ _ hK
end
end Go.Proofs.YtegbhdeaicgpkaaGreatDoor
namespace Go.Proofs.YtegbhdeaicgpkaaGreatDoor
open Go Go.RowKit
def more (w : World) (l : List Obj) (n : Nat) : World := { w with heap := w.heap ++ l.toArray, drawn := n }
section
variable {w w' : World} {l l' : List Obj} {n n' b i : Nat} {v : Value}
@[simp, go_sem] theorem more_size : (more w l n).heap.size = w.heap.size + l.length := by simp [more]
theorem more_block (h : b < w.heap.size) : (more w l n).heap[b]? = w.heap[b]? := by
  show (w.heap ++ l.toArray)[b]? = _
  rw [Array.getElem?_append_left h]
@[go_sem] theorem more_cell (h : b < w.heap.size) : (more w l n).cell? ⟨b, i, none⟩ = w.cell? ⟨b, i, none⟩ := World.cell?_of_block (a := ⟨b, i, none⟩) (more_block h)
@[go_sem] theorem more_frozen (h : b < w.heap.size) : (more w l n).frozen? ⟨b, i, none⟩ = w.frozen? ⟨b, i, none⟩ := World.frozen?_of_block (a := ⟨b, i, none⟩) (more_block h)
@[go_sem] theorem more_setCell (h : b < w.heap.size) : (more w l n).setCell ⟨b, i, none⟩ v = more (w.setCell ⟨b, i, none⟩ v) l n := by
  unfold World.setCell more
  congr 1
  apply Array.ext_getElem?
  intro k
  simp only [Array.getElem?_modify, Array.getElem?_append, Array.size_modify]
  by_cases hk : b = k
  · subst hk
    simp [h]
  · simp [hk]
@[go_sem] theorem more_drew : (more w l n).drew = more w l (n + 1) := rfl
@[go_sem] theorem more_drewN (k : Nat) : (more w l n).drewN k = more w l (n + k) := rfl
@[go_sem] theorem drew_more : more w.drew l n = more w l n := rfl
@[go_sem] theorem drewN_more (k : Nat) : more (w.drewN k) l n = more w l n := rfl
@[go_sem] theorem more_more : more (more w l n) l' n' = more w (l ++ l') n' := by
  unfold more
  simp
theorem below_more {B : Nat} (h : B ≤ w.heap.size) : Below B w (more w l n) := ⟨rfl, rfl, rfl, by simp [more], fun k hk => more_block (by omega)⟩
theorem bmP {B : Nat} {a : World} (h : Below B a w) (hB : B ≤ w.heap.size) : Below B a (more w l n) := h.trans (below_more hB)
theorem more_of_below (h : Below w.heap.size w w') : ∃ l n, w' = more w l n := by
  refine ⟨(w'.heap.toList.drop w.heap.size), w'.drawn, ?_⟩
  obtain ⟨h1, h2, h3, h4, h5⟩ := h
  have e : w'.heap = w.heap ++ (w'.heap.toList.drop w.heap.size).toArray := by
    apply Array.ext_getElem?
    intro k
    rw [Array.getElem?_append]
    by_cases hk : k < w.heap.size
    · rw [if_pos hk]; exact h5 k hk
    · rw [if_neg hk]
      simp only [List.getElem?_toArray, List.getElem?_drop, Array.getElem?_toList]
      congr 1
      omega
  cases w' with
  | mk hp tp dr os out =>
    simp only at h1 h2 h3 e ⊢
    subst h1 h2 h3
    unfold more
    rw [← e]
end
@[go_sem] theorem lt_len {n a : Nat} {l : List Obj} (h : n < a) : n < a + l.length := Nat.lt_of_lt_of_le h (Nat.le_add_right _ _)
@[go_sem] theorem lt_len1 {n a : Nat} {l : List Obj} (h : n < a + l.length) : n < a + l.length + 1 := Nat.lt_succ_of_lt h
@[go_sem] theorem lt_len2 {n a : Nat} {l : List Obj} (h : n < a + l.length + 1) : n < a + l.length + 1 + 1 := Nat.lt_succ_of_lt h
@[go_sem] theorem lt_len3 {n a : Nat} {l : List Obj} (h : n < a + l.length + 1 + 1) : n < a + l.length + 1 + 1 + 1 := Nat.lt_succ_of_lt h
@[go_sem] theorem le_len {n a : Nat} {l : List Obj} (h : n ≤ a) : n ≤ a + l.length := Nat.le_trans h (Nat.le_add_right _ _)
@[go_sem] theorem le_len1 {n a : Nat} {l : List Obj} (h : n ≤ a) : n ≤ a + l.length + 1 := by omega
@[go_sem] theorem le_len2 {n a : Nat} {l : List Obj} (h : n ≤ a) : n ≤ a + l.length + 1 + 1 := by omega
@[go_sem] theorem eq_len {b a : Nat} {l : List Obj} (h : b < a) : (b = a + l.length) = False := by simp; omega
@[go_sem] theorem eq_len1 {b a : Nat} {l : List Obj} (h : b < a) : (b = a + l.length + 1) = False := by simp; omega
@[go_sem] theorem eq_len2 {b a : Nat} {l : List Obj} (h : b < a) : (b = a + l.length + 1 + 1) = False := by simp; omega
@[go_sem] theorem eq_len3 {b a : Nat} {l : List Obj} (h : b < a) : (b = a + l.length + 1 + 1 + 1) = False := by simp; omega
@[go_sem] theorem eq_lenr {b a : Nat} {l : List Obj} (h : b < a) : (a + l.length = b) = False := by simp; omega
theorem baP {B : Nat} {a w : World} (h : Below B a w) (o : Obj) (hB : B ≤ w.heap.size) : Below B a (w.alloc o) := h.alloc hB o
theorem bdP {B : Nat} {a w : World} (h : Below B a w) (n : Nat) : Below B a (w.drewN n) := ⟨h.os, h.tape, h.output, h.size, h.block⟩
end Go.Proofs.YtegbhdeaicgpkaaGreatDoor
namespace Go.Proofs.YtegbhdeaicgpkaaGreatDoor
open Go Go.RowKit
def minI : Int := -9223372036854775808
theorem dec_May (x : Int) (w : World) : Calls Tryz.prog 102 #[.int .i64 x] w fun e w' => e = .returned (.bool (x != minI)) ∧ w = w' := by
  go_enter Tryz.func102, Tryz.ntmps102
  go_wp2
  go_ret
  exact ⟨rfl, rfl⟩
structure V where
  tag : Int
  num : Int
  str : ByteArray
  is : Bool
  code : Int
deriving DecidableEq
def isCode (c : Int) : Bool := decide (1 ≤ c) && decide (c ≤ 8)
def errC (c : Int) : Int := if isCode c then c else 8
def truthG (b : Bool) : V := ⟨3, 0, ⟨#[]⟩, b, 0⟩
def errG (c : Int) : V := ⟨4, 0, ⟨#[]⟩, false, errC c⟩
def numG (x : Int) : V := if x = minI then ⟨4, 0, ⟨#[]⟩, false, 2⟩ else ⟨1, x, ⟨#[]⟩, false, 0⟩
def txtG (s : ByteArray) : V := ⟨2, 0, s, false, 0⟩
def bareG (v : V) : V := ⟨v.tag, if v.tag = 1 then 0 else v.num, if v.tag = 2 then ⟨#[]⟩ else v.str, if v.tag = 3 then false else v.is, if v.tag = 4 then 0 else v.code⟩
def S0 : ByteArray := ⟨#[]⟩
def nameS (c : Nat) : ByteArray := if c = 1 then ⟨#[35, 67, 89, 67, 76, 69, 33]⟩ else if c = 2 then ⟨#[35, 78, 85, 77, 33]⟩ else if c = 3 then ⟨#[35, 68, 73, 86, 33]⟩ else if c = 4 then ⟨#[35, 84, 89, 80, 69, 33]⟩
  else if c = 5 then ⟨#[35, 82, 65, 78, 71, 69, 33]⟩ else if c = 6 then ⟨#[35, 77, 73, 83, 83, 33]⟩ else if c = 7 then ⟨#[35, 76, 79, 78, 71, 33]⟩ else if c = 8 then ⟨#[35, 65, 82, 71, 33]⟩ else ⟨#[]⟩
def namesA : Value := .agg #[.string (nameS 0), .string (nameS 1), .string (nameS 2), .string (nameS 3), .string (nameS 4), .string (nameS 5), .string (nameS 6), .string (nameS 7), .string (nameS 8)]
theorem value_names (w : World) : Calls Tryz.prog 148 #[] w fun e w' => e = .returned namesA ∧ Below w.heap.size w w' := by
  go_enter Tryz.func148, Tryz.ntmps148
  go_wp2
  go_returns
  exact ⟨rfl, by go_grown⟩
theorem idx_names (c : Nat) (h : c ≤ 8) (w : World) : (Instr.index 176 namesA (.int .i64 c)).run Tryz.prog w = .ok (.string (nameS c)) w := by
  have h : c = 0 ∨ c = 1 ∨ c = 2 ∨ c = 3 ∨ c = 4 ∨ c = 5 ∨ c = 6 ∨ c = 7 ∨ c = 8 := by omega
  rcases h with rfl | rfl | rfl | rfl | rfl | rfl | rfl | rfl | rfl
  all_goals (show _ = _; kernel_rfl)
theorem value_Name (c : Int) (w : World) : Calls Tryz.prog 54 #[.int .i64 c] w fun e w' => e = .returned (.string (nameS c.toNat)) ∧ Below w.heap.size w w' := by
  by_cases h : c < 0 ∨ 8 < c
  · have e : nameS c.toNat = ⟨#[]⟩ := by
      unfold nameS
      rcases h with h | h
      · rw [show c.toNat = 0 by omega]; rfl
      · simp (disch := omega) [show c.toNat ≠ 1 by omega, show c.toNat ≠ 2 by omega, show c.toNat ≠ 3 by omega, show c.toNat ≠ 4 by omega, show c.toNat ≠ 5 by omega, show c.toNat ≠ 6 by omega, show c.toNat ≠ 7 by omega, show c.toNat ≠ 8 by omega]
    rw [e]
    rcases h with h | h
    · go_enter Tryz.func54, Tryz.ntmps54
      go_wp2
      go_ret
      exact ⟨rfl, by go_grown⟩
    · have h0 : ¬ c < 0 := by omega
      go_enter Tryz.func54, Tryz.ntmps54
      go_wp2
      go_ret
      exact ⟨rfl, by go_grown⟩
  · obtain ⟨n, rfl⟩ := Int.eq_ofNat_of_zero_le (show 0 ≤ c by omega)
    have hn : n ≤ 8 := by omega
    have hi := idx_names n hn
    rw [Int.toNat_natCast]
    go_enter Tryz.func54, Tryz.ntmps54
    go_wp2_with (go_at_call 148; refine (value_names _).mono ?_; rintro e w1 ⟨rfl, hb⟩)
    go_ret
    exact ⟨rfl, hb⟩
theorem value_Truth (b : Bool) (w : World) : Calls Tryz.prog 98 #[.bool b] w fun e w' => e = .returned (Value.agg #[Value.int .i64 (truthG b).tag, Value.int .i64 (truthG b).num, Value.string (truthG b).str, Value.bool (truthG b).is, Value.int .i64 (truthG b).code]) ∧ Below w.heap.size w w' := by
  go_enter Tryz.func98, Tryz.ntmps98
  go_wp2
  go_returns
  exact ⟨rfl, (by (with_reducible repeat' (first | exact .refl _ _ | assumption | refine bmP ?_ ?_ | refine baP ?_ _ ?_ | refine .drew ?_ | refine .setCell ?_ ?_ _ | refine bdP ?_ _)) <;> go_size)⟩
theorem value_Txt (s : ByteArray) (w : World) : Calls Tryz.prog 137 #[.string s] w fun e w' => e = .returned (Value.agg #[Value.int .i64 (txtG s).tag, Value.int .i64 (txtG s).num, Value.string (txtG s).str, Value.bool (txtG s).is, Value.int .i64 (txtG s).code]) ∧ Below w.heap.size w w' := by
  go_enter Tryz.func137, Tryz.ntmps137
  go_wp2
  go_returns
  exact ⟨rfl, (by (with_reducible repeat' (first | exact .refl _ _ | assumption | refine bmP ?_ ?_ | refine baP ?_ _ ?_ | refine .drew ?_ | refine .setCell ?_ ?_ _ | refine bdP ?_ _)) <;> go_size)⟩
theorem name_empty (c : Int) : (nameS c.toNat).toList.isEmpty = !isCode c := by
  by_cases h : 1 ≤ c ∧ c ≤ 8
  · have h : c = 1 ∨ c = 2 ∨ c = 3 ∨ c = 4 ∨ c = 5 ∨ c = 6 ∨ c = 7 ∨ c = 8 := by omega
    rcases h with rfl | rfl | rfl | rfl | rfl | rfl | rfl | rfl <;> decide +kernel
  · have e : isCode c = false := by unfold isCode; rw [Bool.and_eq_false_iff]; simp; omega
    rw [e]
    unfold nameS
    simp [show c.toNat ≠ 1 by omega, show c.toNat ≠ 2 by omega, show c.toNat ≠ 3 by omega, show c.toNat ≠ 4 by omega, show c.toNat ≠ 5 by omega, show c.toNat ≠ 6 by omega, show c.toNat ≠ 7 by omega, show c.toNat ≠ 8 by omega]
theorem errC_of (c : Int) (h : (nameS c.toNat).toList.isEmpty = true) : errC c = 8 := by
  rw [name_empty] at h; simp at h; simp [errC, h]
theorem errC_of' (c : Int) (h : (nameS c.toNat).toList.isEmpty = false) : errC c = c := by
  rw [name_empty] at h; simp at h; simp [errC, h]
theorem value_Err (c : Int) (w : World) : Calls Tryz.prog 27 #[.int .i64 c] w fun e w' => e = .returned (Value.agg #[Value.int .i64 (errG c).tag, Value.int .i64 (errG c).num, Value.string (errG c).str, Value.bool (errG c).is, Value.int .i64 (errG c).code]) ∧ Below w.heap.size w w' := by
  go_enter Tryz.func27, Tryz.ntmps27
  go_wp2_with fail
  refine (value_Name _ _).mono ?_
  rintro e w1 ⟨rfl, hb⟩
  obtain ⟨l, n, rfl⟩ := more_of_below hb
  clear hb
  go_wp2
  all_goals go_returns
  · exact ⟨by unfold errG; rw [errC_of c ‹_›], (by (with_reducible repeat' (first | exact .refl _ _ | assumption | refine bmP ?_ ?_ | refine baP ?_ _ ?_ | refine .drew ?_ | refine .setCell ?_ ?_ _ | refine bdP ?_ _)) <;> go_size)⟩
  · exact ⟨by unfold errG; rw [errC_of' c ‹_›], (by (with_reducible repeat' (first | exact .refl _ _ | assumption | refine bmP ?_ ?_ | refine baP ?_ _ ?_ | refine .drew ?_ | refine .setCell ?_ ?_ _ | refine bdP ?_ _)) <;> go_size)⟩
theorem value_Num (x : Int) (w : World) : Calls Tryz.prog 56 #[.int .i64 x] w fun e w' => e = .returned (Value.agg #[Value.int .i64 (numG x).tag, Value.int .i64 (numG x).num, Value.string (numG x).str, Value.bool (numG x).is, Value.int .i64 (numG x).code]) ∧ Below w.heap.size w w' := by
  go_enter Tryz.func56, Tryz.ntmps56
  go_wp2_with (first | (go_at_call 102; refine (dec_May _ _).mono ?_; rintro e w1 ⟨rfl, rfl⟩) | (go_at_call 27; refine (value_Err _ _).mono ?_; rintro e w1 ⟨rfl, hb⟩; obtain ⟨l, n, rfl⟩ := more_of_below hb; clear hb))
  all_goals go_returns
  · have h : (!x != minI) = true := ‹_›
    have e : numG x = errG 2 := by simp at h; unfold numG; rw [if_pos h]; rfl
    exact ⟨by rw [e], (by (with_reducible repeat' (first | exact .refl _ _ | assumption | refine bmP ?_ ?_ | refine baP ?_ _ ?_ | refine .drew ?_ | refine .setCell ?_ ?_ _ | refine bdP ?_ _)) <;> go_size)⟩
  · have h : (!x != minI) = false := ‹_›
    have e : numG x = ⟨1, x, ⟨#[]⟩, false, 0⟩ := by simp at h; unfold numG; rw [if_neg h]
    exact ⟨by rw [e], (by (with_reducible repeat' (first | exact .refl _ _ | assumption | refine bmP ?_ ?_ | refine baP ?_ _ ?_ | refine .drew ?_ | refine .setCell ?_ ?_ _ | refine bdP ?_ _)) <;> go_size)⟩
set_option maxHeartbeats 1000000 in
theorem value_bare (v : V) (w : World) : Calls Tryz.prog 144 #[(Value.agg #[Value.int .i64 v.tag, Value.int .i64 v.num, Value.string v.str, Value.bool v.is, Value.int .i64 v.code])] w fun e w' => e = .returned (Value.agg #[Value.int .i64 (bareG v).tag, Value.int .i64 (bareG v).num, Value.string (bareG v).str, Value.bool (bareG v).is, Value.int .i64 (bareG v).code]) ∧ Below w.heap.size w w' := by
  obtain ⟨a, b, s, c, d⟩ := v
  dsimp only
  go_enter Tryz.func144, Tryz.ntmps144
  go_wp2
  all_goals go_returns
  · have h : (a == 1) = true := ‹_›
    have h := eq_of_beq h; subst h
    exact ⟨rfl, (by (with_reducible repeat' (first | exact .refl _ _ | assumption | refine bmP ?_ ?_ | refine baP ?_ _ ?_ | refine .drew ?_ | refine .setCell ?_ ?_ _ | refine bdP ?_ _)) <;> go_size)⟩
  · have h : (a == 2) = true := ‹_›
    have h := eq_of_beq h; subst h
    exact ⟨rfl, (by (with_reducible repeat' (first | exact .refl _ _ | assumption | refine bmP ?_ ?_ | refine baP ?_ _ ?_ | refine .drew ?_ | refine .setCell ?_ ?_ _ | refine bdP ?_ _)) <;> go_size)⟩
  · have h : (a == 3) = true := ‹_›
    have h := eq_of_beq h; subst h
    exact ⟨rfl, (by (with_reducible repeat' (first | exact .refl _ _ | assumption | refine bmP ?_ ?_ | refine baP ?_ _ ?_ | refine .drew ?_ | refine .setCell ?_ ?_ _ | refine bdP ?_ _)) <;> go_size)⟩
  · have h : (a == 4) = true := ‹_›
    have h := eq_of_beq h; subst h
    exact ⟨rfl, (by (with_reducible repeat' (first | exact .refl _ _ | assumption | refine bmP ?_ ?_ | refine baP ?_ _ ?_ | refine .drew ?_ | refine .setCell ?_ ?_ _ | refine bdP ?_ _)) <;> go_size)⟩
  · have h1 : a ≠ 1 := ne_of_beq_false ‹_›
    have h2 : a ≠ 2 := ne_of_beq_false ‹_›
    have h3 : a ≠ 3 := ne_of_beq_false ‹_›
    have h4 : a ≠ 4 := ne_of_beq_false ‹_›
    exact ⟨by simp [bareG, h1, h2, h3, h4], (by (with_reducible repeat' (first | exact .refl _ _ | assumption | refine bmP ?_ ?_ | refine baP ?_ _ ?_ | refine .drew ?_ | refine .setCell ?_ ?_ _ | refine bdP ?_ _)) <;> go_size)⟩
end Go.Proofs.YtegbhdeaicgpkaaGreatDoor
namespace Go.Proofs.YtegbhdeaicgpkaaGreatDoor
open Go Go.RowKit
def eqB (x y : V) : Bool := decide (x = y)
theorem eqlV (a b : Int) (s : ByteArray) (c : Bool) (d : Int) (a' b' : Int) (s' : ByteArray) (c' : Bool) (d' : Int) (w : World) :
    (binOp .eql 29 (.agg #[.int .i64 a, .int .i64 b, .string s, .bool c, .int .i64 d]) (.agg #[.int .i64 a', .int .i64 b', .string s', .bool c', .int .i64 d'])).run Tryz.prog w = .ok (.bool (eqB ⟨a, b, s, c, d⟩ ⟨a', b', s', c', d'⟩)) w := by
  unfold eqB
  rw [run_eql_struct]
  have hs : (s.toList = s'.toList) ↔ s = s' := by
    rw [ByteArray.toList_eq, ByteArray.toList_eq]
    exact ⟨fun h => bytes_inj h, fun h => by rw [h]⟩
  go_simp
  by_cases h1 : a = a' <;> by_cases h2 : b = b' <;> by_cases h3 : s = s' <;> by_cases h4 : c = c' <;> by_cases h5 : d = d' <;> simp [h1, h2, h3, h4, h5, hs]
def mayG (v : V) : Bool := (decide (0 ≤ v.tag) && decide (v.tag ≤ 4)) && eqB (bareG v) ⟨v.tag, 0, ⟨#[]⟩, false, 0⟩ && (if v.tag = 1 then v.num != minI else if v.tag = 4 then isCode v.code else true)
theorem neqV (a b : Int) (s : ByteArray) (c : Bool) (d : Int) (a' b' : Int) (s' : ByteArray) (c' : Bool) (d' : Int) (w : World) :
    (binOp .neq 29 (.agg #[.int .i64 a, .int .i64 b, .string s, .bool c, .int .i64 d]) (.agg #[.int .i64 a', .int .i64 b', .string s', .bool c', .int .i64 d'])).run Tryz.prog w = .ok (.bool (!eqB ⟨a, b, s, c, d⟩ ⟨a', b', s', c', d'⟩)) w := by
  unfold eqB
  rw [run_neq_struct]
  have hs : (s.toList = s'.toList) ↔ s = s' := by
    rw [ByteArray.toList_eq, ByteArray.toList_eq]
    exact ⟨fun h => bytes_inj h, fun h => by rw [h]⟩
  go_simp
  by_cases h1 : a = a' <;> by_cases h2 : b = b' <;> by_cases h3 : s = s' <;> by_cases h4 : c = c' <;> by_cases h5 : d = d' <;> simp [h1, h2, h3, h4, h5, hs]
theorem may0 {v : V} (h : (!eqB ⟨(bareG v).tag, (bareG v).num, (bareG v).str, (bareG v).is, (bareG v).code⟩ ⟨v.tag, 0, ⟨#[]⟩, false, 0⟩) = true) : mayG v = false := by
  have h : (!eqB (bareG v) ⟨v.tag, 0, ⟨#[]⟩, false, 0⟩) = true := h
  simp at h
  simp [mayG, h]
theorem may1 {v : V} (h0 : decide (v.tag < 0) = false) (h4 : decide (4 < v.tag) = false) (h : (!eqB ⟨(bareG v).tag, (bareG v).num, (bareG v).str, (bareG v).is, (bareG v).code⟩ ⟨v.tag, 0, ⟨#[]⟩, false, 0⟩) = false) :
    mayG v = (if v.tag = 1 then v.num != minI else if v.tag = 4 then isCode v.code else true) := by
  have h : (!eqB (bareG v) ⟨v.tag, 0, ⟨#[]⟩, false, 0⟩) = false := h
  simp at h h0 h4
  simp [mayG, h, h0, h4]
theorem value_May (v : V) (w : World) : Calls Tryz.prog 50 #[(Value.agg #[Value.int .i64 v.tag, Value.int .i64 v.num, Value.string v.str, Value.bool v.is, Value.int .i64 v.code])] w fun e w' => e = .returned (.bool (mayG v)) ∧ Below w.heap.size w w' := by
  by_cases h0 : v.tag < 0
  · go_enter Tryz.func50, Tryz.ntmps50
    go_wp2
    go_quiet (fail)
    go_wp2
    go_ret
    exact ⟨by simp [mayG, show ¬ 0 ≤ v.tag by omega], (by (with_reducible repeat' (first | exact .refl _ _ | assumption | refine bmP ?_ ?_ | refine baP ?_ _ ?_ | refine .drew ?_ | refine .setCell ?_ ?_ _ | refine bdP ?_ _)) <;> go_size)⟩
  · by_cases h1 : 4 < v.tag
    · go_enter Tryz.func50, Tryz.ntmps50
      go_wp2
      go_quiet (fail)
      go_wp2
      go_ret
      exact ⟨by simp [mayG, show ¬ v.tag ≤ 4 by omega], (by (with_reducible repeat' (first | exact .refl _ _ | assumption | refine bmP ?_ ?_ | refine baP ?_ _ ?_ | refine .drew ?_ | refine .setCell ?_ ?_ _ | refine bdP ?_ _)) <;> go_size)⟩
    · have hq := neqV
      have hd0 : decide (v.tag < 0) = false := by simpa using h0
      have hd1 : decide (4 < v.tag) = false := by simpa using h1
      clear h0 h1
      go_enter Tryz.func50, Tryz.ntmps50
      go_wp2
      go_region_held3 (fun w' => w'.cell? ⟨w.heap.size, 0, none⟩ = some (.int .i64 v.tag) ∧ w'.cell? ⟨w.heap.size, 1, none⟩ = some (.int .i64 v.num) ∧ w'.cell? ⟨w.heap.size, 2, none⟩ = some (.string v.str) ∧ w'.cell? ⟨w.heap.size, 3, none⟩ = some (.bool v.is) ∧ w'.cell? ⟨w.heap.size, 4, none⟩ = some (.int .i64 v.code))
        (first | go_keep | (go_split_ands; refine ⟨?_, ?_, ?_, ?_, ?_⟩ <;> (rw [more_cell (by simp)]; assumption)))
        (first | (go_at_call 144; refine (value_bare _ _).mono ?_; rintro e w1 ⟨rfl, hb⟩; obtain ⟨l, n, rfl⟩ := more_of_below hb; clear hb))
      go_wp2_with (first | (go_at_call 102; refine (dec_May _ _).mono ?_; rintro e w1 ⟨rfl, rfl⟩) | (go_at_call 54; refine (value_Name _ _).mono ?_; rintro e w1 ⟨rfl, hb⟩; obtain ⟨l, n, rfl⟩ := more_of_below hb; clear hb))
      all_goals go_ret
      · exact ⟨by rw [may0 ‹_›]; rfl, (by (with_reducible repeat' (first | exact .refl _ _ | assumption | refine bmP ?_ ?_ | refine baP ?_ _ ?_ | refine .drew ?_ | refine .setCell ?_ ?_ _ | refine bdP ?_ _)) <;> go_size)⟩
      · have h : (v.tag == 1) = true := ‹_›
        exact ⟨by rw [may1 hd0 hd1 ‹_›, if_pos (eq_of_beq h)]; rfl, (by (with_reducible repeat' (first | exact .refl _ _ | assumption | refine bmP ?_ ?_ | refine baP ?_ _ ?_ | refine .drew ?_ | refine .setCell ?_ ?_ _ | refine bdP ?_ _)) <;> go_size)⟩
      · have h1 : (v.tag == 1) = false := ‹_›
        have h : (v.tag == 4) = true := ‹_›
        refine ⟨?_, (by (with_reducible repeat' (first | exact .refl _ _ | assumption | refine bmP ?_ ?_ | refine baP ?_ _ ?_ | refine .drew ?_ | refine .setCell ?_ ?_ _ | refine bdP ?_ _)) <;> go_size)⟩
        rw [may1 hd0 hd1 ‹_›, if_neg (ne_of_beq_false h1), if_pos (eq_of_beq h)]
        show Ending.returned (.bool (!(nameS v.code.toNat).toList.isEmpty)) = _
        rw [name_empty, Bool.not_not]
      · have h1 : (v.tag == 1) = false := ‹_›
        have h : (v.tag == 4) = false := ‹_›
        exact ⟨by rw [may1 hd0 hd1 ‹_›, if_neg (ne_of_beq_false h1), if_neg (ne_of_beq_false h)]; rfl, (by (with_reducible repeat' (first | exact .refl _ _ | assumption | refine bmP ?_ ?_ | refine baP ?_ _ ?_ | refine .drew ?_ | refine .setCell ?_ ?_ _ | refine bdP ?_ _)) <;> go_size)⟩
end Go.Proofs.YtegbhdeaicgpkaaGreatDoor
namespace Go.Proofs.YtegbhdeaicgpkaaGreatDoor
open Go Go.RowKit
def Reads (w : World) (B size : Nat) (A : Option Addr) (n : Nat) (xs : List Value) : Prop :=
  xs.length = n * size ∧ (0 < n → ∃ b off, A = some ⟨b, off, none⟩ ∧ b < B ∧ ∀ j u, xs[j]? = some u → w.cell? ⟨b, off + j, none⟩ = some u)
theorem Reads.keep {w w' : World} {B B' size n : Nat} {A : Option Addr} {xs : List Value} (h : Reads w B size A n xs) (hk : ∀ b i v, b < B → w.cell? ⟨b, i, none⟩ = some v → w'.cell? ⟨b, i, none⟩ = some v) (hB : B ≤ B') : Reads w' B' size A n xs :=
  ⟨h.1, fun hn => by
    obtain ⟨b, off, e, hb, hc⟩ := h.2 hn
    exact ⟨b, off, e, by omega, fun j u hu => hk _ _ _ hb (hc j u hu)⟩⟩
theorem Reads.below {w w' : World} {B size n : Nat} {A : Option Addr} {xs : List Value} (h : Reads w B size A n xs) (hb : Below B w w') : Reads w' B size A n xs :=
  h.keep (fun b i v hlt hv => (hb.cell (p := ⟨b, i, none⟩) hlt).trans hv) (Nat.le_refl _)
def OneCell (w : World) (b : Nat) : Prop := b < w.heap.size ∧ ∀ i v, w.cell? ⟨b, i, none⟩ = some v → i = 0
theorem OneCell.of_block {w w' : World} {b : Nat} (h : OneCell w b) (hs : w.heap.size ≤ w'.heap.size) (e : w'.heap[b]? = w.heap[b]?) : OneCell w' b :=
  ⟨Nat.lt_of_lt_of_le h.1 hs, fun i v hv => h.2 i v ((World.cell?_of_block (w := w) (w' := w') (a := ⟨b, i, none⟩) e).symm.trans hv)⟩
theorem one_alloc (w : World) (c : Value) (t : TypeId) : OneCell (w.alloc (.cells #[c] t)) w.heap.size := by
  refine ⟨by simp, fun i v hv => ?_⟩
  rw [cell_of_row (w.alloc (.cells #[c] t)) w.heap.size i #[c] t (0, 0) (heap_alloc_new w _)] at hv
  have := (Array.getElem?_eq_some_iff.1 hv).1
  simp at this
  exact this
structure Keeps (w w' : World) : Prop where
  cell : ∀ b i v, w.cell? ⟨b, i, none⟩ = some v → w'.cell? ⟨b, i, none⟩ = some v
  one : ∀ b, OneCell w b → OneCell w' b
theorem keeps_refl (w : World) : Keeps w w := ⟨fun _ _ _ h => h, fun _ h => h⟩
theorem Keeps.trans {a b c : World} (h : Keeps a b) (k : Keeps b c) : Keeps a c := ⟨fun n i v hv => k.cell n i v (h.cell n i v hv), fun b hb => k.one b (h.one b hb)⟩
theorem keeps_alloc {a w : World} (h : Keeps a w) (o : Obj) : Keeps a (w.alloc o) := by
  refine ⟨fun n i v hv => ?_, fun b hb => (h.one b hb).of_block (by simp) (Below.heap_alloc w o b (h.one b hb).1)⟩
  have h1 := h.cell n i v hv
  rw [World.cell?_alloc_past _ _ _ (World.block_lt_of_cell? w _ h1)]
  exact h1
theorem keeps_more {a w : World} (h : Keeps a w) (l : List Obj) (k : Nat) : Keeps a (more w l k) := by
  refine ⟨fun n i v hv => ?_, fun b hb => (h.one b hb).of_block (by simp) (more_block (h.one b hb).1)⟩
  have h1 := h.cell n i v hv
  rw [more_cell (World.block_lt_of_cell? w _ h1)]
  exact h1
theorem keeps_drew {a w : World} (h : Keeps a w) : Keeps a w.drew := ⟨h.cell, h.one⟩
theorem keeps_drewN {a w : World} (h : Keeps a w) (n : Nat) : Keeps a (w.drewN n) := ⟨h.cell, h.one⟩
theorem keeps_below {w w' : World} (h : Below w.heap.size w w') : Keeps w w' := ⟨fun n i v hv => (h.cell (p := ⟨n, i, none⟩) (World.block_lt_of_cell? w _ hv)).trans hv, fun b hb => hb.of_block h.size (h.block b hb.1)⟩
theorem Reads.keeps {w w' : World} {B size n : Nat} {A : Option Addr} {xs : List Value} (h : Reads w B size A n xs) (hk : Keeps w w') : Reads w' B size A n xs :=
  h.keep (fun b i v _ hv => hk.cell b i v hv) (Nat.le_refl _)
theorem Reads.lift {w : World} {B B' size n : Nat} {A : Option Addr} {xs : List Value} (h : Reads w B size A n xs) (hB : B ≤ B') : Reads w B' size A n xs := h.keep (fun _ _ _ _ hv => hv) hB
def hasTrue (xs : List Bool) : Bool := xs.contains true
def NoTrue (xs : List Bool) (k : Nat) : Prop := ∀ j, j < k → xs[j]? ≠ some true
theorem noTrue_step {xs : List Bool} {k : Nat} (h : NoTrue xs k) (hk : (xs.getD k false) = false) : NoTrue xs (k + 1) := by
  intro j hj
  by_cases e : j = k
  · subst e
    intro h'
    simp [List.getD, h'] at hk
  · exact h j (by omega)
theorem noTrue_end {xs : List Bool} {n : Nat} (h : NoTrue xs n) (hn : xs.length = n) : hasTrue xs = false := by
  unfold hasTrue
  rw [List.contains_eq_mem]
  simp only [decide_eq_false_iff_not]
  intro hm
  obtain ⟨j, hj⟩ := List.mem_iff_getElem?.1 hm
  have : j < xs.length := (List.getElem?_eq_some_iff.1 hj).1
  exact h j (by omega) hj
theorem hasTrue_of {xs : List Bool} {k : Nat} (h : (xs.getD k false) = true) : hasTrue xs = true := by
  unfold hasTrue
  simp only [List.getD] at h
  cases hx : xs[k]? with
  | none => rw [hx] at h; cases h
  | some v =>
    rw [hx] at h
    simp at h
    subst h
    simpa using List.mem_of_getElem? hx
def IdxSays (xs : List Bool) (e : Ending) : Prop := ∃ r : Int, e = .returned (.int .i64 r) ∧ (decide (0 ≤ r) = hasTrue xs)
theorem index_bools (A : Option Addr) (n c B : Nat) (xs : List Bool) (w : World) (hr : Reads w B 1 A n (xs.map Value.bool)) (hm : n ≤ 9223372036854775807) :
    Calls Tryz.prog 161 #[.slice A n c, .bool true] w fun e w' => IdxSays xs e ∧ w = w' := by
  have hlen : xs.length = n := by have := hr.1; simpa using this
  by_cases h0 : n = 0
  · subst h0
    have hx : xs = [] := by simpa using hlen
    subst hx
    clear hr hlen hm
    go_enter Tryz.func161, Tryz.ntmps161
    go_wp2
    refine wp_loop_rounds 1 ?_
    rw [rounds_succ]
    go_wp2
    go_ret
    exact ⟨⟨_, rfl, by decide⟩, rfl⟩
  · obtain ⟨b, off, rfl, _, hc⟩ := hr.2 (by omega)
    have hcell : ∀ k, k < n → w.cell? ⟨b, off + k, none⟩ = some (.bool (xs.getD k false)) := fun k hk => hc k _ (by simp [List.getD, List.getElem?_eq_getElem (show k < xs.length by omega)])
    have HC := Lib.hid hcell
    have HL := Lib.hid hlen
    clear hc hr hcell hlen h0
    go_enter Tryz.func161, Tryz.ntmps161
    go_wp2
    go_loop [8] (fun t => ∃ k : Nat, k ≤ n ∧ t = .int .i64 k ∧ NoTrue xs k) (fun t => n - (intOf t).toNat)
    case atStart => exact ⟨0, Nat.zero_le _, rfl, fun j hj => by omega⟩
    case round =>
      obtain ⟨k, hk, rfl, hno⟩ := hrel
      by_cases hlt : k < n
      · have hcell := HC.out k hlt
        cases hv : xs.getD k false with
        | true =>
          rw [hv] at hcell
          have hh := Lib.hid (hasTrue_of hv)
          clear hv
          go_wp2
          go_ret
          exact ⟨⟨_, rfl, by rw [hh.out]; simp⟩, rfl⟩
        | false =>
          rw [hv] at hcell
          have hh := noTrue_step hno hv
          clear hv hno
          go_wp2
          go_round
          case rel => exact ⟨k + 1, by omega, by go_num, hh⟩
          case measure => simp [intOf]; omega
      · have hh := Lib.hid (noTrue_end hno (HL.out.trans (by omega)))
        clear hno
        go_wp2
        go_ret
        exact ⟨⟨_, rfl, by rw [hh.out]; decide⟩, rfl⟩
theorem contains_bools (A : Option Addr) (n c B : Nat) (xs : List Bool) (w : World) (hr : Reads w B 1 A n (xs.map Value.bool)) (hm : n ≤ 9223372036854775807) :
    Calls Tryz.prog 78 #[.slice A n c, .bool true] w fun e w' => e = .returned (.bool (hasTrue xs)) ∧ w = w' := by
  go_enter Tryz.func78, Tryz.ntmps78
  go_wp2_with fail
  refine (index_bools A n c B xs w hr hm).mono ?_
  rintro e w1 ⟨⟨r, rfl, hx⟩, rfl⟩
  have HX := Lib.hid hx
  clear hx hr hm
  go_wp2
  go_ret
  exact ⟨by rw [← HX.out]; rfl, rfl⟩
end Go.Proofs.YtegbhdeaicgpkaaGreatDoor
