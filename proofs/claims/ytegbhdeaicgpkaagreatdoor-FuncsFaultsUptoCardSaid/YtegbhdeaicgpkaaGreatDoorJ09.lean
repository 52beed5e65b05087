/-
  Parts of a proof: FindT, Takes, Made, Turn.
-/
import Derived.Test.YtegbhdeaicgpkaaGreatDoorJ02
import Derived.Test.YtegbhdeaicgpkaaGreatDoorJ03
import Derived.Laws.EntriesVeiled
import Derived.Test.YtegbhdeaicgpkaaGreatDoorJ07
import Derived.Test.YtegbhdeaicgpkaaGreatDoorJ06
import Derived.Test.YtegbhdeaicgpkaaGreatDoorJ01
import Derived.Test.YtegbhdeaicgpkaaGreatDoorJ08
set_option linter.all false
namespace Go.Proofs.YtegbhdeaicgpkaaGreatDoor
open Go Go.RowKit
def projT : Value → Option (ByteArray × Int)
  | .agg ⟨[.string s, .int _ a, _]⟩ => some (s, a)
  | _ => none
def projTF : Value → Option Value
  | .agg ⟨[_, _, f]⟩ => some f
  | _ => none
def textTab (s : ByteArray) : Option (ByteArray × Int) :=
  if (⟨#[78, 85, 77]⟩ : ByteArray) = s then some (⟨#[115]⟩, 1) else
  if (⟨#[82, 69, 86]⟩ : ByteArray) = s then some (⟨#[115]⟩, 1) else
  if (⟨#[69, 88, 65, 67, 84]⟩ : ByteArray) = s then some (⟨#[115, 115]⟩, 2) else
  if (⟨#[67, 72, 65, 82]⟩ : ByteArray) = s then some (⟨#[110]⟩, 1) else
  if (⟨#[79, 82, 68]⟩ : ByteArray) = s then some (⟨#[115]⟩, 1) else
  if (⟨#[67, 79, 78, 67, 65, 84]⟩ : ByteArray) = s then some (⟨#[115, 115, 115, 115, 115, 115, 115, 115, 115, 115, 115, 115, 115, 115, 115, 115]⟩, 1) else
  if (⟨#[83, 85, 66, 83, 84]⟩ : ByteArray) = s then some (⟨#[115, 115, 115]⟩, 3) else
  if (⟨#[70, 73, 78, 68]⟩ : ByteArray) = s then some (⟨#[115, 115, 110]⟩, 2) else
  if (⟨#[82, 69, 80, 84]⟩ : ByteArray) = s then some (⟨#[115, 110]⟩, 2) else
  if (⟨#[84, 82, 73, 77]⟩ : ByteArray) = s then some (⟨#[115]⟩, 1) else
  if (⟨#[76, 79, 87, 69, 82]⟩ : ByteArray) = s then some (⟨#[115]⟩, 1) else
  if (⟨#[85, 80, 80, 69, 82]⟩ : ByteArray) = s then some (⟨#[115]⟩, 1) else
  if (⟨#[77, 73, 68]⟩ : ByteArray) = s then some (⟨#[115, 110, 110]⟩, 3) else
  if (⟨#[82, 73, 71, 72, 84]⟩ : ByteArray) = s then some (⟨#[115, 110]⟩, 1) else
  if (⟨#[76, 69, 70, 84]⟩ : ByteArray) = s then some (⟨#[115, 110]⟩, 1) else
  if (⟨#[76, 69, 78]⟩ : ByteArray) = s then some (⟨#[115]⟩, 1) else none
def textFn (p q : Nat) (s : ByteArray) : Option Value :=
  if (⟨#[78, 85, 77]⟩ : ByteArray) = s then some (.func (.func 100) #[] #[]) else
  if (⟨#[82, 69, 86]⟩ : ByteArray) = s then some (.func (.func 164) #[] #[.pointer (some ⟨q, 0, none⟩)]) else
  if (⟨#[69, 88, 65, 67, 84]⟩ : ByteArray) = s then some (.func (.func 97) #[] #[]) else
  if (⟨#[67, 72, 65, 82]⟩ : ByteArray) = s then some (.func (.func 96) #[] #[]) else
  if (⟨#[79, 82, 68]⟩ : ByteArray) = s then some (.func (.func 95) #[] #[]) else
  if (⟨#[67, 79, 78, 67, 65, 84]⟩ : ByteArray) = s then some (.func (.func 94) #[] #[]) else
  if (⟨#[83, 85, 66, 83, 84]⟩ : ByteArray) = s then some (.func (.func 92) #[] #[]) else
  if (⟨#[70, 73, 78, 68]⟩ : ByteArray) = s then some (.func (.func 91) #[] #[]) else
  if (⟨#[82, 69, 80, 84]⟩ : ByteArray) = s then some (.func (.func 90) #[] #[]) else
  if (⟨#[84, 82, 73, 77]⟩ : ByteArray) = s then some (.func (.func 164) #[] #[.pointer (some ⟨p + 3, 0, none⟩)]) else
  if (⟨#[76, 79, 87, 69, 82]⟩ : ByteArray) = s then some (.func (.func 164) #[] #[.pointer (some ⟨p + 2, 0, none⟩)]) else
  if (⟨#[85, 80, 80, 69, 82]⟩ : ByteArray) = s then some (.func (.func 164) #[] #[.pointer (some ⟨p + 1, 0, none⟩)]) else
  if (⟨#[77, 73, 68]⟩ : ByteArray) = s then some (.func (.func 84) #[] #[]) else
  if (⟨#[82, 73, 71, 72, 84]⟩ : ByteArray) = s then some (.func (.func 83) #[] #[]) else
  if (⟨#[76, 69, 70, 84]⟩ : ByteArray) = s then some (.func (.func 82) #[] #[]) else
  if (⟨#[76, 69, 78]⟩ : ByteArray) = s then some (.func (.func 80) #[] #[]) else none
def TextCells (p q : Nat) (w' : World) : Prop := w'.cell? ⟨p + 1, 0, none⟩ = some (.func (.func 86) #[] #[]) ∧ w'.cell? ⟨p + 2, 0, none⟩ = some (.func (.func 88) #[] #[]) ∧
  w'.cell? ⟨p + 3, 0, none⟩ = some (.func (.func 89) #[] #[]) ∧ w'.cell? ⟨q, 0, none⟩ = some (.func (.func 99) #[] #[])
def TextFound (s : ByteArray) (c : ByteArray) (x : Int) (e : Ending) (w' : World) : Prop := ∃ fn first cap, e = .returned (.tuple #[.agg #[.string c, .int .i64 x, .func fn first cap], .bool true]) ∧
  ∃ p q, textFn p q s = some (.func fn first cap) ∧ TextCells p q w'
def TextMissed (e : Ending) : Prop := e = .returned (.tuple #[.agg #[.string ⟨#[]⟩, .int .i64 0, .nilFunc], .bool false])
def TextPost (s : ByteArray) (e : Ending) (w' : World) : Prop := (∃ c x, textTab s = some (c, x) ∧ TextFound s c x e w') ∨ (textTab s = none ∧ TextMissed e)
theorem rep16 (w : World) : Calls Tryz.prog 93 #[.string ⟨#[115]⟩, .int .i64 16] w fun e w' => e = .returned (.string ⟨#[115, 115, 115, 115, 115, 115, 115, 115, 115, 115, 115, 115, 115, 115, 115, 115]⟩) ∧ Below w.heap.size w w' :=
  Tryz.strings_Repeat_main ⟨#[115]⟩ 16 w (by decide) (by decide) (by decide) (by decide)
set_option maxRecDepth 100000 in
set_option maxHeartbeats 4000000 in
theorem texts_find0 (s : ByteArray) (w : World) : Calls Tryz.prog 32 #[.string s] w fun e w' => TextPost s e w' ∧ Below w.heap.size w w' := by
  have hmk : ∀ w, (Instr.makeMap 152 none).run Tryz.prog w = .ok (.map (some w.heap.size)) (setMap (w.alloc (.map #[] 0)) w.heap.size []) := fun w => run_makeMapS w _
  have hst : ∀ (w : World) (b : Nat) (L : List (ByteArray × Value)) (s : ByteArray) (v : Value), b < w.heap.size → (Instr.mapUpdate 152 (.map (some b)) (.string s) v).run Tryz.prog (setMap w b L) = .ok () (setMap w b (ups s v L)) := fun w b L s v h => run_storeS Tryz.underlying9 Tryz.underlying152 w h s v L
  have hst2 : ∀ (w : World) (l : List Obj) (n : Nat) (o : Obj) (b : Nat) (L : List (ByteArray × Value)) (s : ByteArray) (v : Value), b < w.heap.size → (Instr.mapUpdate 152 (.map (some b)) (.string s) v).run Tryz.prog (setMap ((more w l n).alloc o) b L) = .ok () (setMap ((more w l n).alloc o) b (ups s v L)) := fun w l n o b L s v h => run_storeS Tryz.underlying9 Tryz.underlying152 _ (by simp; omega) s v L
  have hn1 : ∀ l : List Obj, w.heap.size < w.heap.size + 1 + 1 + 1 + 1 + 1 + l.length := fun l => by omega
  have hn2 : ∀ l : List Obj, w.heap.size + 1 < w.heap.size + 1 + 1 + 1 + 1 + 1 + l.length := fun l => by omega
  have hn3 : ∀ l : List Obj, w.heap.size ≤ w.heap.size + 1 + 1 + 1 + 1 + 1 + l.length := fun l => by omega
  have hn4 : ∀ l : List Obj, w.heap.size + 1 ≤ w.heap.size + 1 + 1 + 1 + 1 + 1 + l.length := fun l => by omega
  have hn5 : ∀ l : List Obj, ¬ w.heap.size = w.heap.size + 1 + 1 + 1 + 1 + 1 + l.length := fun l => by omega
  have hn6 : ∀ l : List Obj, ¬ w.heap.size + 1 = w.heap.size + 1 + 1 + 1 + 1 + 1 + l.length := fun l => by omega
  have hn7 : ∀ l : List Obj, ¬ w.heap.size + 1 = w.heap.size + 1 + 1 + 1 + 1 + 1 + l.length + 1 := fun l => by omega
  go_enter Tryz.func32, Tryz.ntmps32
  go_wp2_with (first | (go_at_call 85; go_in) | (go_at_call 93; refine (rep16 _).mono ?_; rintro e w1 ⟨rfl, hb⟩; obtain ⟨l, n, rfl⟩ := more_of_below hb; clear hb) | (at_lookup; refine wpList_lookT rfl 152 _ _ rfl 9 102 Tryz.underlying9 Tryz.underlying152 (.agg #[.string ⟨#[]⟩, .int .i64 0, .nilFunc]) (fun w => by kernel_rfl) _ _ _ rfl (by simp; omega) _ rfl ?_ ?_ ?_))
  · repeat (with_reducible refine AllV.ups ?_ (funT _ _ _ _ _))
    exact AllV.nil _
  · intro c x fn first cap hv
    go_wp2
    refine bodyPost_ret (by simp [results, Tryz.results32, go_sem, hn1, hn2, hn3, hn4, hn5, hn6, hn7]; try rfl) rfl ?_
    refine ⟨.inl ⟨c, x, ?_, fn, first, cap, rfl, w.heap.size + 1, w.heap.size + 1 + 1 + 1 + 1 + 1 + l.length, ?_, ?_⟩, ?_⟩
    · have h := congrArg (fun o => o.bind projT) hv.out
      simp only [bind_ups, bind_nil] at h
      exact h
    · have h := congrArg (fun o => o.bind projTF) hv.out
      simp only [bind_ups, bind_nil] at h
      exact h
    · clear hv
      refine ⟨?_, ?_, ?_, ?_⟩
      iterate 3
        · rw [setMap_cell (by omega), World.cell?_alloc_past _ _ _ (by simp only [World.size_alloc, more_size]; omega), World.cell?_alloc_past _ _ _ (by simp only [World.size_alloc, more_size]; omega), more_cell (by simp only [World.size_alloc, more_size]; omega)]
          go_simp
      · rw [setMap_cell (by omega), World.cell?_alloc_past _ _ _ (by simp only [World.size_alloc, more_size]; omega), World.cell?_alloc_at _ _ _ _ (by simp only [World.size_alloc, more_size])]
        rfl
    · refine below_setMap ?_ (by simp)
      exact (by (with_reducible repeat' (first | exact .refl _ _ | assumption | refine bmP ?_ ?_ | refine baP ?_ _ ?_ | refine .drew ?_ | refine .setCell ?_ ?_ _ | refine bdP ?_ _)) <;> go_size)
  · intro hv
    go_wp2
    refine bodyPost_ret (by simp [results, Tryz.results32, go_sem, hn1, hn2, hn3, hn4, hn5, hn6, hn7]; try rfl) rfl ?_
    refine ⟨.inr ⟨?_, rfl⟩, ?_⟩
    · have h := congrArg (fun o => o.bind projT) hv.out
      simp only [bind_ups, bind_nil] at h
      exact h
    · refine below_setMap ?_ (by simp)
      exact (by (with_reducible repeat' (first | exact .refl _ _ | assumption | refine bmP ?_ ?_ | refine baP ?_ _ ?_ | refine .drew ?_ | refine .setCell ?_ ?_ _ | refine bdP ?_ _)) <;> go_size)
theorem texts_find_yes (s : ByteArray) (c : ByteArray) (x : Int) (h : textTab s = some (c, x)) (w : World) : Calls Tryz.prog 32 #[.string s] w fun e w' => TextFound s c x e w' ∧ Below w.heap.size w w' :=
  (texts_find0 s w).mono fun e w' ⟨hp, hb⟩ => by
    rcases hp with ⟨c', x', h', hf⟩ | ⟨h', _⟩
    · rw [h] at h'; cases h'; exact ⟨hf, hb⟩
    · rw [h] at h'; cases h'
theorem texts_find_no (s : ByteArray) (h : textTab s = none) (w : World) : Calls Tryz.prog 32 #[.string s] w fun e w' => TextMissed e ∧ Below w.heap.size w w' :=
  (texts_find0 s w).mono fun e w' ⟨hp, hb⟩ => by
    rcases hp with ⟨c', x', h', hf⟩ | ⟨_, hm⟩
    · rw [h] at h'; cases h'
    · exact ⟨hm, hb⟩
end Go.Proofs.YtegbhdeaicgpkaaGreatDoor
namespace Go.Proofs.YtegbhdeaicgpkaaGreatDoor
open Go Go.RowKit
theorem nums_Known (s : ByteArray) (w : World) : Calls Tryz.prog 9 #[.string s] w fun e w' => e = .returned (.bool (numTab s).isSome) ∧ Below w.heap.size w w' := by
  cases h : numTab s with
  | none =>
    go_enter Tryz.func9, Tryz.ntmps9
    go_wp2_with fail
    refine (nums_find_no s h _).mono ?_
    rintro e w1 ⟨hm, hb⟩
    obtain rfl := hm
    obtain ⟨l, n, rfl⟩ := more_of_below hb
    clear hb h
    go_wp2
    go_ret
    exact ⟨rfl, (by (with_reducible repeat' (first | exact .refl _ _ | assumption | refine bmP ?_ ?_ | refine baP ?_ _ ?_ | refine .drew ?_ | refine .setCell ?_ ?_ _ | refine bdP ?_ _)) <;> go_size)⟩
  | some q =>
    obtain ⟨x, y⟩ := q
    go_enter Tryz.func9, Tryz.ntmps9
    go_wp2_with fail
    refine (nums_find_yes s x y h _).mono ?_
    rintro e w1 ⟨⟨fn, first, cap, rfl, _⟩, hb⟩
    obtain ⟨l, n, rfl⟩ := more_of_below hb
    clear hb h
    go_wp2
    go_ret
    exact ⟨rfl, (by (with_reducible repeat' (first | exact .refl _ _ | assumption | refine bmP ?_ ?_ | refine baP ?_ _ ?_ | refine .drew ?_ | refine .setCell ?_ ?_ _ | refine bdP ?_ _)) <;> go_size)⟩
theorem texts_Known (s : ByteArray) (w : World) : Calls Tryz.prog 11 #[.string s] w fun e w' => e = .returned (.bool (textTab s).isSome) ∧ Below w.heap.size w w' := by
  cases h : textTab s with
  | none =>
    go_enter Tryz.func11, Tryz.ntmps11
    go_wp2_with fail
    refine (texts_find_no s h _).mono ?_
    rintro e w1 ⟨hm, hb⟩
    obtain rfl := hm
    obtain ⟨l, n, rfl⟩ := more_of_below hb
    clear hb h
    go_wp2
    go_ret
    exact ⟨rfl, (by (with_reducible repeat' (first | exact .refl _ _ | assumption | refine bmP ?_ ?_ | refine baP ?_ _ ?_ | refine .drew ?_ | refine .setCell ?_ ?_ _ | refine bdP ?_ _)) <;> go_size)⟩
  | some q =>
    obtain ⟨x, y⟩ := q
    go_enter Tryz.func11, Tryz.ntmps11
    go_wp2_with fail
    refine (texts_find_yes s x y h _).mono ?_
    rintro e w1 ⟨⟨fn, first, cap, rfl, _⟩, hb⟩
    obtain ⟨l, n, rfl⟩ := more_of_below hb
    clear hb h
    go_wp2
    go_ret
    exact ⟨rfl, (by (with_reducible repeat' (first | exact .refl _ _ | assumption | refine bmP ?_ ?_ | refine baP ?_ _ ?_ | refine .drew ?_ | refine .setCell ?_ ?_ _ | refine bdP ?_ _)) <;> go_size)⟩
theorem aggs_Known (s : ByteArray) (w : World) : Calls Tryz.prog 13 #[.string s] w fun e w' => e = .returned (.bool (aggTab s).isSome) ∧ Below w.heap.size w w' := by
  cases h : aggTab s with
  | none =>
    go_enter Tryz.func13, Tryz.ntmps13
    go_wp2_with fail
    refine (aggs_find_no s h _).mono ?_
    rintro e w1 ⟨hm, hb⟩
    obtain rfl := hm
    obtain ⟨l, n, rfl⟩ := more_of_below hb
    clear hb h
    go_wp2
    go_ret
    exact ⟨rfl, (by (with_reducible repeat' (first | exact .refl _ _ | assumption | refine bmP ?_ ?_ | refine baP ?_ _ ?_ | refine .drew ?_ | refine .setCell ?_ ?_ _ | refine bdP ?_ _)) <;> go_size)⟩
  | some q =>
    obtain ⟨c, x, y⟩ := q
    go_enter Tryz.func13, Tryz.ntmps13
    go_wp2_with fail
    refine (aggs_find_yes s c x y h _).mono ?_
    rintro e w1 ⟨⟨fn, first, cap, rfl, _⟩, hb⟩
    obtain ⟨l, n, rfl⟩ := more_of_below hb
    clear hb h
    go_wp2
    go_ret
    exact ⟨rfl, (by (with_reducible repeat' (first | exact .refl _ _ | assumption | refine bmP ?_ ?_ | refine baP ?_ _ ?_ | refine .drew ?_ | refine .setCell ?_ ?_ _ | refine bdP ?_ _)) <;> go_size)⟩
def between (x y : Int) (n : Nat) : Bool := decide (x ≤ n) && decide (n ≤ y)
def takesNum (s : ByteArray) (xs : List Bool) : Bool := match numTab s with
  | some (x, y) => between x y xs.length && !hasTrue xs
  | none => false
def takesText (s : ByteArray) (xs : List Bool) : Bool := match textTab s with
  | some (c, x) => between x c.size xs.length && !hasTrue xs
  | none => false
theorem nums_Takes (s : ByteArray) (A : Option Addr) (n c : Nat) (xs : List Bool) (w : World) (B : Nat) (hr : Reads w B 1 A n (xs.map Value.bool)) (hm : n ≤ 9223372036854775807) :
    Calls Tryz.prog 30 #[.string s, .slice A n c] w fun e w' => e = .returned (.bool (takesNum s xs)) ∧ Below w.heap.size w w' := by
  have hlen : xs.length = n := by have := hr.1; simpa using this
  cases h : numTab s with
  | none =>
    have e : takesNum s xs = false := by simp [takesNum, h]
    rw [e]
    clear hr hm hlen
    go_enter Tryz.func30, Tryz.ntmps30
    go_wp2_with fail
    refine (nums_find_no s h _).mono ?_
    rintro e w1 ⟨hm, hb⟩
    obtain rfl := hm
    obtain ⟨l, n, rfl⟩ := more_of_below hb
    clear hb h e
    go_wp2
    go_ret
    exact ⟨rfl, (by (with_reducible repeat' (first | exact .refl _ _ | assumption | refine bmP ?_ ?_ | refine baP ?_ _ ?_ | refine .drew ?_ | refine .setCell ?_ ?_ _ | refine bdP ?_ _)) <;> go_size)⟩
  | some q =>
    obtain ⟨x, y⟩ := q
    have e : takesNum s xs = (between x y n && !hasTrue xs) := by simp [takesNum, h, hlen]
    rw [e]
    clear hlen e
    by_cases hx : x ≤ n
    · by_cases hy : n ≤ y
      · have e : (between x y n && !hasTrue xs) = !hasTrue xs := by simp [between, hx, hy]
        rw [e]
        clear e
        go_enter Tryz.func30, Tryz.ntmps30
        go_wp2_with fail
        refine (nums_find_yes s x y h _).mono ?_
        rintro e w1 ⟨⟨fn, first, cap, rfl, _⟩, hb⟩
        obtain ⟨l, k, rfl⟩ := more_of_below hb
        clear hb h
        go_wp2_with fail
        refine (contains_bools A n c B xs _ (hr.keeps (by repeat (first | with_reducible exact keeps_refl _ | with_reducible assumption | with_reducible refine keeps_alloc ?_ _ | with_reducible refine keeps_more ?_ _ _ | with_reducible refine keeps_drew ?_ | with_reducible refine keeps_drewN ?_ _))) hm).mono ?_
        rintro e w1 ⟨rfl, rfl⟩
        clear hr
        go_wp2
        go_ret
        exact ⟨rfl, (by (with_reducible repeat' (first | exact .refl _ _ | assumption | refine bmP ?_ ?_ | refine baP ?_ _ ?_ | refine .drew ?_ | refine .setCell ?_ ?_ _ | refine bdP ?_ _)) <;> go_size)⟩
      · have e : (between x y n && !hasTrue xs) = false := by simp [between, hy]
        rw [e]
        clear e hr
        go_enter Tryz.func30, Tryz.ntmps30
        go_wp2_with fail
        refine (nums_find_yes s x y h _).mono ?_
        rintro e w1 ⟨⟨fn, first, cap, rfl, _⟩, hb⟩
        obtain ⟨l, k, rfl⟩ := more_of_below hb
        clear hb h
        go_wp2
        go_ret
        exact ⟨rfl, (by (with_reducible repeat' (first | exact .refl _ _ | assumption | refine bmP ?_ ?_ | refine baP ?_ _ ?_ | refine .drew ?_ | refine .setCell ?_ ?_ _ | refine bdP ?_ _)) <;> go_size)⟩
    · have e : (between x y n && !hasTrue xs) = false := by simp [between, hx]
      rw [e]
      clear e hr
      go_enter Tryz.func30, Tryz.ntmps30
      go_wp2_with fail
      refine (nums_find_yes s x y h _).mono ?_
      rintro e w1 ⟨⟨fn, first, cap, rfl, _⟩, hb⟩
      obtain ⟨l, k, rfl⟩ := more_of_below hb
      clear hb h
      go_wp2
      go_ret
      exact ⟨rfl, (by (with_reducible repeat' (first | exact .refl _ _ | assumption | refine bmP ?_ ?_ | refine baP ?_ _ ?_ | refine .drew ?_ | refine .setCell ?_ ?_ _ | refine bdP ?_ _)) <;> go_size)⟩
theorem texts_Takes (s : ByteArray) (A : Option Addr) (n c : Nat) (xs : List Bool) (w : World) (B : Nat) (hr : Reads w B 1 A n (xs.map Value.bool)) (hm : n ≤ 9223372036854775807) :
    Calls Tryz.prog 34 #[.string s, .slice A n c] w fun e w' => e = .returned (.bool (takesText s xs)) ∧ Below w.heap.size w w' := by
  have hlen : xs.length = n := by have := hr.1; simpa using this
  cases h : textTab s with
  | none =>
    have e : takesText s xs = false := by simp [takesText, h]
    rw [e]
    clear hr hm hlen
    go_enter Tryz.func34, Tryz.ntmps34
    go_wp2_with fail
    refine (texts_find_no s h _).mono ?_
    rintro e w1 ⟨hm, hb⟩
    obtain rfl := hm
    obtain ⟨l, n, rfl⟩ := more_of_below hb
    clear hb h e
    go_wp2
    go_ret
    exact ⟨rfl, (by (with_reducible repeat' (first | exact .refl _ _ | assumption | refine bmP ?_ ?_ | refine baP ?_ _ ?_ | refine .drew ?_ | refine .setCell ?_ ?_ _ | refine bdP ?_ _)) <;> go_size)⟩
  | some q =>
    obtain ⟨y, x⟩ := q
    have e : takesText s xs = (between x y.size n && !hasTrue xs) := by simp [takesText, h, hlen]
    rw [e]
    clear hlen e
    by_cases hx : x ≤ n
    · by_cases hy : n ≤ y.size
      · have e : (between x y.size n && !hasTrue xs) = !hasTrue xs := by simp [between, hx, hy]
        rw [e]
        clear e
        go_enter Tryz.func34, Tryz.ntmps34
        go_wp2_with fail
        refine (texts_find_yes s y x h _).mono ?_
        rintro e w1 ⟨⟨fn, first, cap, rfl, _⟩, hb⟩
        obtain ⟨l, k, rfl⟩ := more_of_below hb
        clear hb h
        go_wp2_with fail
        refine (contains_bools A n c B xs _ (hr.keeps (by repeat (first | with_reducible exact keeps_refl _ | with_reducible assumption | with_reducible refine keeps_alloc ?_ _ | with_reducible refine keeps_more ?_ _ _ | with_reducible refine keeps_drew ?_ | with_reducible refine keeps_drewN ?_ _))) hm).mono ?_
        rintro e w1 ⟨rfl, rfl⟩
        clear hr
        go_wp2
        go_ret
        exact ⟨rfl, (by (with_reducible repeat' (first | exact .refl _ _ | assumption | refine bmP ?_ ?_ | refine baP ?_ _ ?_ | refine .drew ?_ | refine .setCell ?_ ?_ _ | refine bdP ?_ _)) <;> go_size)⟩
      · have e : (between x y.size n && !hasTrue xs) = false := by simp [between, hy]
        rw [e]
        clear e hr
        go_enter Tryz.func34, Tryz.ntmps34
        go_wp2_with fail
        refine (texts_find_yes s y x h _).mono ?_
        rintro e w1 ⟨⟨fn, first, cap, rfl, _⟩, hb⟩
        obtain ⟨l, k, rfl⟩ := more_of_below hb
        clear hb h
        go_wp2
        go_ret
        exact ⟨rfl, (by (with_reducible repeat' (first | exact .refl _ _ | assumption | refine bmP ?_ ?_ | refine baP ?_ _ ?_ | refine .drew ?_ | refine .setCell ?_ ?_ _ | refine bdP ?_ _)) <;> go_size)⟩
    · have e : (between x y.size n && !hasTrue xs) = false := by simp [between, hx]
      rw [e]
      have hd : decide (x ≤ ↑n) = false := by simpa using hx
      clear e hr hx
      go_enter Tryz.func34, Tryz.ntmps34
      go_wp2_with fail
      refine (texts_find_yes s y x h _).mono ?_
      rintro e w1 ⟨⟨fn, first, cap, rfl, _⟩, hb⟩
      obtain ⟨l, k, rfl⟩ := more_of_below hb
      clear hb h
      go_wp2
      all_goals go_ret
      all_goals exact ⟨rfl, (by (with_reducible repeat' (first | exact .refl _ _ | assumption | refine bmP ?_ ?_ | refine baP ?_ _ ?_ | refine .drew ?_ | refine .setCell ?_ ?_ _ | refine bdP ?_ _)) <;> go_size)⟩
end Go.Proofs.YtegbhdeaicgpkaaGreatDoor
namespace Go.Proofs.YtegbhdeaicgpkaaGreatDoor
open Go Go.RowKit
def namesL : List ByteArray := [⟨#[65, 66, 83]⟩,
  ⟨#[83, 73, 71, 78]⟩,
  ⟨#[73, 78, 84]⟩,
  ⟨#[84, 82, 85, 78, 67]⟩,
  ⟨#[82, 79, 85, 78, 68]⟩,
  ⟨#[70, 76, 79, 79, 82]⟩,
  ⟨#[67, 69, 73, 76]⟩,
  ⟨#[77, 79, 68]⟩,
  ⟨#[81, 85, 79, 84]⟩,
  ⟨#[80, 79, 87, 69, 82]⟩,
  ⟨#[83, 81, 82, 84]⟩,
  ⟨#[71, 67, 68]⟩,
  ⟨#[76, 67, 77]⟩,
  ⟨#[70, 65, 67, 84]⟩,
  ⟨#[67, 76, 65, 77, 80]⟩,
  ⟨#[79, 68, 68]⟩,
  ⟨#[76, 69, 78]⟩,
  ⟨#[76, 69, 70, 84]⟩,
  ⟨#[82, 73, 71, 72, 84]⟩,
  ⟨#[77, 73, 68]⟩,
  ⟨#[85, 80, 80, 69, 82]⟩,
  ⟨#[76, 79, 87, 69, 82]⟩,
  ⟨#[84, 82, 73, 77]⟩,
  ⟨#[82, 69, 80, 84]⟩,
  ⟨#[70, 73, 78, 68]⟩,
  ⟨#[83, 85, 66, 83, 84]⟩,
  ⟨#[67, 79, 78, 67, 65, 84]⟩,
  ⟨#[79, 82, 68]⟩,
  ⟨#[67, 72, 65, 82]⟩,
  ⟨#[69, 88, 65, 67, 84]⟩,
  ⟨#[82, 69, 86]⟩,
  ⟨#[78, 85, 77]⟩,
  ⟨#[83, 85, 77]⟩,
  ⟨#[80, 82, 79, 68]⟩,
  ⟨#[77, 73, 78]⟩,
  ⟨#[77, 65, 88]⟩,
  ⟨#[65, 86, 71]⟩,
  ⟨#[77, 69, 68, 73, 65, 78]⟩,
  ⟨#[67, 79, 85, 78, 84]⟩,
  ⟨#[67, 79, 85, 78, 84, 65]⟩,
  ⟨#[66, 76, 65, 78, 75, 83]⟩,
  ⟨#[67, 79, 85, 78, 84, 73, 70]⟩,
  ⟨#[83, 85, 77, 73, 70]⟩,
  ⟨#[77, 65, 84, 67, 72]⟩,
  ⟨#[76, 79, 79, 75, 85, 80]⟩,
  ⟨#[73, 78, 68, 69, 88]⟩,
  ⟨#[76, 65, 82, 71, 69]⟩,
  ⟨#[74, 79, 73, 78]⟩,
  ⟨#[82, 79, 87, 83]⟩,
  ⟨#[67, 79, 76, 83]⟩]
def nmK (k : Nat) : ByteArray := namesL.getD k ⟨#[]⟩
def layK (k : Nat) : Nat := if k < 16 then 0 else if k < 32 then 1 else 2
theorem lay_num : ∀ k, k < 50 → (numTab (nmK k)).isSome = decide (layK k = 0) := by decide +kernel
theorem lay_text : ∀ k, k < 50 → (textTab (nmK k)).isSome = decide (layK k = 1) := by decide +kernel
theorem lay_agg : ∀ k, k < 50 → (aggTab (nmK k)).isSome = decide (layK k = 2) := by decide +kernel
def layFn (i j : Nat) : Nat := if i = 0 then (if j = 0 then 9 else if j = 1 then 30 else 10) else if i = 1 then (if j = 0 then 11 else if j = 1 then 34 else 12) else (if j = 0 then 13 else if j = 1 then 39 else 14)
def layOf (s : ByteArray) : Option Nat := if (numTab s).isSome then some 0 else if (textTab s).isSome then some 1 else if (aggTab s).isSome then some 2 else none
def LayE (w : World) (v : Value) (s : ByteArray) (i : Nat) : Prop := ∃ pb pn, v = .agg #[.func (.func 142) #[] #[.pointer (some ⟨pb, 0, none⟩), .pointer (some ⟨pn, 0, none⟩)], .func (.func 143) #[] #[.pointer (some ⟨pb, 0, none⟩), .pointer (some ⟨pn, 0, none⟩)]] ∧
  w.cell? ⟨pb, 0, none⟩ = some (.func (.func (layFn i 0)) #[] #[]) ∧ w.cell? ⟨pb, 1, none⟩ = some (.func (.func (layFn i 1)) #[] #[]) ∧ w.cell? ⟨pb, 2, none⟩ = some (.func (.func (layFn i 2)) #[] #[]) ∧ w.cell? ⟨pn, 0, none⟩ = some (.string s)
theorem LayE.keeps {w w' : World} {v : Value} {s : ByteArray} {i : Nat} (h : LayE w v s i) (hk : Keeps w w') : LayE w' v s i := by
  obtain ⟨pb, pn, e, h0, h1, h2, h3⟩ := h
  exact ⟨pb, pn, e, hk.cell _ _ _ h0, hk.cell _ _ _ h1, hk.cell _ _ _ h2, hk.cell _ _ _ h3⟩
def EntE (w : World) (s : ByteArray) (v : Value) : Prop := (∃ x y d, ownTab s = some (x, y, d) ∧ OwnE w v x y d) ∨ (∃ i, layOf s = some i ∧ LayE w v s i)
theorem EntE.keeps {w w' : World} {v : Value} {s : ByteArray} (h : EntE w s v) (hk : Keeps w w') : EntE w' s v := by
  rcases h with ⟨x, y, d, e, h⟩ | ⟨i, e, h⟩
  · exact .inl ⟨x, y, d, e, h.keeps hk⟩
  · exact .inr ⟨i, e, h.keeps hk⟩
def MadeInv (w0 : World) (b : Nat) (D : ByteArray → Bool) (w : World) : Prop := ∃ L, Below w0.heap.size w0 w ∧ w0.heap.size ≤ b ∧ w.heap[b]? = some (.map (ents L 0).toArray L.length) ∧ (∀ s v, getU s L = some v → EntE w s v) ∧ (∀ s, (getU s L).isSome = D s) ∧ (L.map (·.1)).Nodup
theorem MadeInv.congr {w0 w : World} {b : Nat} {D D' : ByteArray → Bool} (h : MadeInv w0 b D w) (e : ∀ s, D s = D' s) : MadeInv w0 b D' w := by
  obtain ⟨L, h1, h2, h3, h4, h5, h6⟩ := h
  exact ⟨L, h1, h2, h3, h4, fun s => (h5 s).trans (e s), h6⟩
theorem MadeInv.below {w0 w w1 : World} {b : Nat} {D : ByteArray → Bool} (h : MadeInv w0 b D w) (hb : Below w.heap.size w w1) : MadeInv w0 b D w1 := by
  obtain ⟨L, h1, h2, h3, h4, h5⟩ := h
  have hlt : b < w.heap.size := (Array.getElem?_eq_some_iff.1 h3).1
  exact ⟨L, h1.trans (hb.mono h1.size), h2, (hb.block b hlt).trans h3, fun s v hv => (h4 s v hv).keeps (keeps_below hb), h5⟩
theorem MadeInv.store {w0 w : World} {b : Nat} {D : ByteArray → Bool} {v : Value} (h : MadeInv w0 b D w) (s : ByteArray) (hE : EntE w s v) :
    ∃ w', (Instr.mapUpdate 79 (.map (some b)) (.string s) v).run Tryz.prog w = .ok () w' ∧ MadeInv w0 b (fun t => if s = t then true else D t) w' ∧ Keeps w w' ∧ w.heap.size = w'.heap.size := by
  obtain ⟨L, h1, h2, h3, h4, h5, h6⟩ := h
  have hlt : b < w.heap.size := (Array.getElem?_eq_some_iff.1 h3).1
  have hk : Keeps w (setMap w b (ups s v L)) := keeps_setMap h3
  refine ⟨setMap w b (ups s v L), ?_, ⟨ups s v L, below_setMap h1 h2, h2, setMap_at hlt, fun s' v' hv => ?_, fun s' => ?_, ups_nodup s v h6⟩, hk, by simp⟩
  · have := run_storeS (P := Tryz.prog) Tryz.underlying9 Tryz.underlying79 w hlt s v L
    rw [setMap_self h3] at this
    exact this
  · rw [getU_ups] at hv
    by_cases e : s = s'
    · subst e
      rw [if_pos rfl] at hv
      cases hv
      exact hE.keeps hk
    · rw [if_neg e] at hv
      exact (h4 s' v' hv).keeps hk
  · rw [isSome_ups, h5]
theorem madeInv_own {w0 w : World} {b : Nat} {L : List (ByteArray × Value)} (h : OwnInv w0 b L w) (hs : ∀ s, (getU s L).isSome = isOwn s) : MadeInv w0 b isOwn w := by
  obtain ⟨h1, h2, h3, h4, h5⟩ := h
  exact ⟨L, h1, h2, h3, fun s v hv => .inl (h4 s v hv), hs, h5⟩
section
variable {ops : Array Oper} {rest : List Oper} {a : Act} {Q : Exit → Act → World → Prop}
set_option maxRecDepth 100000 in
theorem wpList_updM {w0 w : World} {b : Nat} {D : ByteArray → Bool} {v : Value} (m k u : Operand) {ty : TypeId} {pos : String} {after : Array Edge} (s : ByteArray) (h : MadeInv w0 b D w) (hE : EntE w s v)
    (hm : a.eval m = .map (some b)) (hk : a.eval k = .string s) (hu : a.eval u = v) (hK : ∀ w', MadeInv w0 b (fun t => if s = t then true else D t) w' → Keeps w w' → wpList Tryz.prog ops Q rest a w') :
    wpList Tryz.prog ops Q (⟨none, .mapUpdate 79 m k u, ty, pos, after, none⟩ :: rest) a w := by
  refine wpList_plain rfl fun K' hK' => ?_
  refine Exists.elim (h.store s hE) fun w' hw => ?_
  have h1 := hw.1
  have h4 := hK w' hw.2.1 hw.2.2.1
  clear h hw hK
  unfold Oper.wp
  simp [execOp, hm, hk, hu, h1, Result.andThen]
  exact hK' _ _ h4
end
def MadeCtx (lb nb : Nat) (w : World) : Prop := (∀ i j, i < 3 → j < 3 → w.cell? ⟨lb, 3 * i + j, none⟩ = some (.func (.func (layFn i j)) #[] #[])) ∧ ∀ k, k < 50 → w.cell? ⟨nb, k, none⟩ = some (.string (nmK k))
theorem MadeCtx.keeps {lb nb : Nat} {w w' : World} (h : MadeCtx lb nb w) (hk : Keeps w w') : MadeCtx lb nb w' :=
  ⟨fun i j hi hj => hk.cell _ _ _ (h.1 i j hi hj), fun k hk' => hk.cell _ _ _ (h.2 k hk')⟩
def inFirst (k : Nat) (t : ByteArray) : Bool := (namesL.take k).any fun n => decide (t = n)
def D1 (k : Nat) (t : ByteArray) : Bool := isOwn t || inFirst k t
def D2 (k j : Nat) (t : ByteArray) : Bool := D1 k t || (decide (t = nmK k) && decide (layK k < j))
theorem inFirst_succ (k : Nat) (hk : k < 50) (t : ByteArray) : inFirst (k + 1) t = (inFirst k t || decide (t = nmK k)) := by
  unfold inFirst nmK
  have hl : k < namesL.length := hk
  rw [List.take_succ_eq_append_getElem hl, List.getD, List.getElem?_eq_getElem hl, List.any_append]
  simp only [List.any_cons, List.any_nil, Bool.or_false, Option.getD_some]
theorem D2_zero (k : Nat) (t : ByteArray) : D1 k t = D2 k 0 t := by simp [D2]
theorem D2_three (k : Nat) (hk : k < 50) (t : ByteArray) : D2 k 3 t = D1 (k + 1) t := by
  have h : layK k < 3 := by unfold layK; split <;> (try split) <;> omega
  simp only [D2, D1, inFirst_succ k hk, h, decide_true, Bool.and_true, Bool.or_assoc]
theorem D2_skip (k j : Nat) (h : ¬ layK k = j) (t : ByteArray) : D2 k j t = D2 k (j + 1) t := by
  have e : decide (layK k < j) = decide (layK k < j + 1) := by simp; omega
  simp only [D2, e]
theorem D2_take (k j : Nat) (h : layK k = j) (t : ByteArray) : (if nmK k = t then true else D2 k j t) = D2 k (j + 1) t := by
  subst h
  by_cases e : nmK k = t
  · subst e; simp [D2]
  · have e' : ¬ t = nmK k := fun h => e h.symm
    simp [D2, e, e']
theorem layOf_nm {k : Nat} (hk : k < 50) : layOf (nmK k) = some (layK k) := by
  unfold layOf
  rw [lay_num k hk, lay_text k hk, lay_agg k hk]
  unfold layK
  by_cases h1 : k < 16
  · simp [h1]
  · by_cases h2 : k < 32 <;> simp [h1, h2]
def MadeSays (w : World) (e : Ending) (w' : World) : Prop := ∃ b, e = .returned (.map (some b)) ∧ MadeInv w b (D1 50) w'
set_option maxRecDepth 100000 in
set_option maxHeartbeats 4000000 in
theorem funcs_made (w : World) : Calls Tryz.prog 49 #[] w fun e w' => MadeSays w e w' := by
  go_enter Tryz.func49, Tryz.ntmps49
  go_wp2_with fail
  refine (funcs_own w).mono ?_
  rintro e w1 ⟨b, L, rfl, hI, hL⟩
  have hM := madeInv_own hI hL
  clear hI hL
  go_wp2
  go_loopw [14] (fun t wr => ∃ k : Nat, k ≤ 50 ∧ t = .int .i64 k ∧ MadeInv w b (D1 k) wr ∧ MadeCtx w1.heap.size (w1.heap.size + 1) wr) (fun t _ => 50 - (intOf t).toNat)
  case atStart =>
    refine ⟨0, by omega, rfl, ?_, ?_⟩
    · exact (hM.below (by (with_reducible repeat' (first | exact .refl _ _ | assumption | refine bmP ?_ ?_ | refine baP ?_ _ ?_ | refine .drew ?_ | refine .setCell ?_ ?_ _ | refine bdP ?_ _)) <;> go_size)).congr (fun s => by simp [D1, inFirst])
    · refine ⟨fun i j hi hj => ?_, fun k hk => ?_⟩
      · rw [World.cell?_alloc_past _ _ _ (by simp), World.cell?_alloc_at _ _ _ _ rfl]
        have h1 : i = 0 ∨ i = 1 ∨ i = 2 := by omega
        have h2 : j = 0 ∨ j = 1 ∨ j = 2 := by omega
        rcases h1 with rfl | rfl | rfl <;> rcases h2 with rfl | rfl | rfl <;> rfl
      · rw [World.cell?_alloc_at _ _ _ _ (by simp)]
        have e : ∀ l : List ByteArray, ((l.map Value.string).toArray)[k]? = (l[k]?).map Value.string := fun l => by simp
        refine (e namesL).trans ?_
        unfold nmK
        rw [List.getD, List.getElem?_eq_getElem (show k < namesL.length from hk)]
        rfl
  case round =>
    obtain ⟨k, hk, rfl, hM1, hC⟩ := hrel
    by_cases hlt : k < 50
    · have hname := hC.2 k hlt
      have hbn := World.block_lt_of_cell? wr _ hname
      have h00 := hC.1 0 0 (by omega) (by omega)
      have hbl := World.block_lt_of_cell? wr _ h00
      clear h00
      go_wp2
      obtain ⟨wo, rfl⟩ : ∃ wo : World, wo = wr := ⟨_, rfl⟩
      have hM1' := hM1.below (w1 := wo.alloc (.cells #[.string (nmK k)] 9)) (by (with_reducible repeat' (first | exact .refl _ _ | assumption | refine bmP ?_ ?_ | refine baP ?_ _ ?_ | refine .drew ?_ | refine .setCell ?_ ?_ _ | refine bdP ?_ _)) <;> go_size)
      have hC1 := hC.keeps (w' := wo.alloc (.cells #[.string (nmK k)] 9)) (by repeat (first | with_reducible exact keeps_refl _ | with_reducible assumption | with_reducible refine keeps_alloc ?_ _ | with_reducible refine keeps_more ?_ _ _ | with_reducible refine keeps_drew ?_ | with_reducible refine keeps_drewN ?_ _))
      clear hM1 hC hname hbn hbl
      go_loopw [20] (fun t wr => ∃ j : Nat, j ≤ 3 ∧ t = .int .i64 j ∧ MadeInv w b (D2 k j) wr ∧ MadeCtx w1.heap.size (w1.heap.size + 1) wr ∧ wr.cell? ⟨wo.heap.size, 0, none⟩ = some (.string (nmK k))) (fun t _ => 3 - (intOf t).toNat)
      case atStart => exact ⟨0, by omega, rfl, hM1'.congr (D2_zero k), hC1, by go_simp⟩
      case round =>
        obtain ⟨j, hj, rfl, hM2, hC2, hnm⟩ := hrel
        clear hM1' hC1
        have hbo := World.block_lt_of_cell? _ _ hnm
        have hb1 := World.block_lt_of_cell? _ _ (hC2.1 0 0 (by omega) (by omega))
        have h4 : j = 0 ∨ j = 1 ∨ j = 2 ∨ j = 3 := by omega
        rcases h4 with rfl | rfl | rfl | rfl
        · have g0 : wr.cell? ⟨w1.heap.size, 0, none⟩ = some (.func (.func 9) #[] #[]) := hC2.1 0 0 (by omega) (by omega)
          have g1 : wr.cell? ⟨w1.heap.size, 1, none⟩ = some (.func (.func 30) #[] #[]) := hC2.1 0 1 (by omega) (by omega)
          have g2 : wr.cell? ⟨w1.heap.size, 2, none⟩ = some (.func (.func 10) #[] #[]) := hC2.1 0 2 (by omega) (by omega)
          by_cases hl : layK k = 0
          · have hN : (numTab (nmK k)).isSome = true := by rw [lay_num k hlt]; simp [hl]
            have HL := Lib.hid hl
            clear hl
            go_wp2_with (first
              | (go_at_call 9; refine (nums_Known _ _).mono ?_; rintro e w2 ⟨rfl, hb⟩; obtain ⟨l, n, rfl⟩ := more_of_below hb; clear hb)
              | (refine wpList_updM _ _ _ _ (hM2.below ?_) (.inr ⟨0, (layOf_nm hlt).trans (by rw [HL.out]), wr.heap.size, wo.heap.size, rfl, ?_, ?_, ?_, ?_⟩) rfl rfl rfl ?_))
            · exact (by (with_reducible repeat' (first | exact .refl _ _ | assumption | refine bmP ?_ ?_ | refine baP ?_ _ ?_ | refine .drew ?_ | refine .setCell ?_ ?_ _ | refine bdP ?_ _)) <;> go_size)
            · go_simp; rfl
            · go_simp; rfl
            · go_simp; rfl
            · go_simp
            · intro w3 hM3 hk3
              go_wp2
              go_roundw
              case rel => exact ⟨1, by omega, by go_num, hM3.congr (D2_take k 0 HL.out), hC2.keeps (Keeps.trans (by repeat (first | with_reducible exact keeps_refl _ | with_reducible assumption | with_reducible refine keeps_alloc ?_ _ | with_reducible refine keeps_more ?_ _ _ | with_reducible refine keeps_drew ?_ | with_reducible refine keeps_drewN ?_ _)) hk3), hk3.cell _ _ _ (by go_simp)⟩
              case measure => simp [intOf]
          · have hN : (numTab (nmK k)).isSome = false := by rw [lay_num k hlt]; simp [hl]
            have HL := Lib.hid hl
            clear hl
            go_wp2_with (first | (go_at_call 9; refine (nums_Known _ _).mono ?_; rintro e w2 ⟨rfl, hb⟩; obtain ⟨l, n, rfl⟩ := more_of_below hb; clear hb))
            go_roundw
            case rel => exact ⟨1, by omega, by go_num, (hM2.below (by (with_reducible repeat' (first | exact .refl _ _ | assumption | refine bmP ?_ ?_ | refine baP ?_ _ ?_ | refine .drew ?_ | refine .setCell ?_ ?_ _ | refine bdP ?_ _)) <;> go_size)).congr (D2_skip k 0 HL.out), hC2.keeps (by repeat (first | with_reducible exact keeps_refl _ | with_reducible assumption | with_reducible refine keeps_alloc ?_ _ | with_reducible refine keeps_more ?_ _ _ | with_reducible refine keeps_drew ?_ | with_reducible refine keeps_drewN ?_ _)), by go_simp⟩
            case measure => simp [intOf]
        · have g0 : wr.cell? ⟨w1.heap.size, 3, none⟩ = some (.func (.func 11) #[] #[]) := hC2.1 1 0 (by omega) (by omega)
          have g1 : wr.cell? ⟨w1.heap.size, 4, none⟩ = some (.func (.func 34) #[] #[]) := hC2.1 1 1 (by omega) (by omega)
          have g2 : wr.cell? ⟨w1.heap.size, 5, none⟩ = some (.func (.func 12) #[] #[]) := hC2.1 1 2 (by omega) (by omega)
          by_cases hl : layK k = 1
          · have hN : (textTab (nmK k)).isSome = true := by rw [lay_text k hlt]; simp [hl]
            have HL := Lib.hid hl
            clear hl
            go_wp2_with (first
              | (go_at_call 11; refine (texts_Known _ _).mono ?_; rintro e w2 ⟨rfl, hb⟩; obtain ⟨l, n, rfl⟩ := more_of_below hb; clear hb)
              | (refine wpList_updM _ _ _ _ (hM2.below ?_) (.inr ⟨1, (layOf_nm hlt).trans (by rw [HL.out]), wr.heap.size, wo.heap.size, rfl, ?_, ?_, ?_, ?_⟩) rfl rfl rfl ?_))
            · exact (by (with_reducible repeat' (first | exact .refl _ _ | assumption | refine bmP ?_ ?_ | refine baP ?_ _ ?_ | refine .drew ?_ | refine .setCell ?_ ?_ _ | refine bdP ?_ _)) <;> go_size)
            · go_simp; rfl
            · go_simp; rfl
            · go_simp; rfl
            · go_simp
            · intro w3 hM3 hk3
              go_wp2
              go_roundw
              case rel => exact ⟨2, by omega, by go_num, hM3.congr (D2_take k 1 HL.out), hC2.keeps (Keeps.trans (by repeat (first | with_reducible exact keeps_refl _ | with_reducible assumption | with_reducible refine keeps_alloc ?_ _ | with_reducible refine keeps_more ?_ _ _ | with_reducible refine keeps_drew ?_ | with_reducible refine keeps_drewN ?_ _)) hk3), hk3.cell _ _ _ (by go_simp)⟩
              case measure => simp [intOf]
          · have hN : (textTab (nmK k)).isSome = false := by rw [lay_text k hlt]; simp [hl]
            have HL := Lib.hid hl
            clear hl
            go_wp2_with (first | (go_at_call 11; refine (texts_Known _ _).mono ?_; rintro e w2 ⟨rfl, hb⟩; obtain ⟨l, n, rfl⟩ := more_of_below hb; clear hb))
            go_roundw
            case rel => exact ⟨2, by omega, by go_num, (hM2.below (by (with_reducible repeat' (first | exact .refl _ _ | assumption | refine bmP ?_ ?_ | refine baP ?_ _ ?_ | refine .drew ?_ | refine .setCell ?_ ?_ _ | refine bdP ?_ _)) <;> go_size)).congr (D2_skip k 1 HL.out), hC2.keeps (by repeat (first | with_reducible exact keeps_refl _ | with_reducible assumption | with_reducible refine keeps_alloc ?_ _ | with_reducible refine keeps_more ?_ _ _ | with_reducible refine keeps_drew ?_ | with_reducible refine keeps_drewN ?_ _)), by go_simp⟩
            case measure => simp [intOf]
        · have g0 : wr.cell? ⟨w1.heap.size, 6, none⟩ = some (.func (.func 13) #[] #[]) := hC2.1 2 0 (by omega) (by omega)
          have g1 : wr.cell? ⟨w1.heap.size, 7, none⟩ = some (.func (.func 39) #[] #[]) := hC2.1 2 1 (by omega) (by omega)
          have g2 : wr.cell? ⟨w1.heap.size, 8, none⟩ = some (.func (.func 14) #[] #[]) := hC2.1 2 2 (by omega) (by omega)
          by_cases hl : layK k = 2
          · have hN : (aggTab (nmK k)).isSome = true := by rw [lay_agg k hlt]; simp [hl]
            have HL := Lib.hid hl
            clear hl
            go_wp2_with (first
              | (go_at_call 13; refine (aggs_Known _ _).mono ?_; rintro e w2 ⟨rfl, hb⟩; obtain ⟨l, n, rfl⟩ := more_of_below hb; clear hb)
              | (refine wpList_updM _ _ _ _ (hM2.below ?_) (.inr ⟨2, (layOf_nm hlt).trans (by rw [HL.out]), wr.heap.size, wo.heap.size, rfl, ?_, ?_, ?_, ?_⟩) rfl rfl rfl ?_))
            · exact (by (with_reducible repeat' (first | exact .refl _ _ | assumption | refine bmP ?_ ?_ | refine baP ?_ _ ?_ | refine .drew ?_ | refine .setCell ?_ ?_ _ | refine bdP ?_ _)) <;> go_size)
            · go_simp; rfl
            · go_simp; rfl
            · go_simp; rfl
            · go_simp
            · intro w3 hM3 hk3
              go_wp2
              go_roundw
              case rel => exact ⟨3, by omega, by go_num, hM3.congr (D2_take k 2 HL.out), hC2.keeps (Keeps.trans (by repeat (first | with_reducible exact keeps_refl _ | with_reducible assumption | with_reducible refine keeps_alloc ?_ _ | with_reducible refine keeps_more ?_ _ _ | with_reducible refine keeps_drew ?_ | with_reducible refine keeps_drewN ?_ _)) hk3), hk3.cell _ _ _ (by go_simp)⟩
              case measure => simp [intOf]
          · have hN : (aggTab (nmK k)).isSome = false := by rw [lay_agg k hlt]; simp [hl]
            have HL := Lib.hid hl
            clear hl
            go_wp2_with (first | (go_at_call 13; refine (aggs_Known _ _).mono ?_; rintro e w2 ⟨rfl, hb⟩; obtain ⟨l, n, rfl⟩ := more_of_below hb; clear hb))
            go_roundw
            case rel => exact ⟨3, by omega, by go_num, (hM2.below (by (with_reducible repeat' (first | exact .refl _ _ | assumption | refine bmP ?_ ?_ | refine baP ?_ _ ?_ | refine .drew ?_ | refine .setCell ?_ ?_ _ | refine bdP ?_ _)) <;> go_size)).congr (D2_skip k 2 HL.out), hC2.keeps (by repeat (first | with_reducible exact keeps_refl _ | with_reducible assumption | with_reducible refine keeps_alloc ?_ _ | with_reducible refine keeps_more ?_ _ _ | with_reducible refine keeps_drew ?_ | with_reducible refine keeps_drewN ?_ _)), by go_simp⟩
            case measure => simp [intOf]
        · have hM3 := hM2.congr (D2_three k hlt)
          clear hM2
          go_wp2
          go_roundw
          case rel => exact ⟨k + 1, by omega, by go_num, hM3, hC2⟩
          case measure => simp [intOf]; omega
    · have e : k = 50 := by omega
      subst e
      go_wp2
      go_ret
      exact ⟨_, rfl, hM1⟩
end Go.Proofs.YtegbhdeaicgpkaaGreatDoor
namespace Go.Proofs.YtegbhdeaicgpkaaGreatDoor
open Go Go.RowKit
def Turn (b : Nat) (w w' : World) : Prop := w'.os = w.os ∧ w'.tape = w.tape ∧ w'.output = w.output ∧ w.heap.size ≤ w'.heap.size ∧ ∀ k, k < w.heap.size → k ≠ b → w'.heap[k]? = w.heap[k]?
theorem Turn.of_below {b : Nat} {w w' : World} (h : Below w.heap.size w w') : Turn b w w' := ⟨h.os, h.tape, h.output, h.size, fun k hk _ => h.block k hk⟩
theorem Turn.refl (b : Nat) (w : World) : Turn b w w := .of_below (.refl _ _)
theorem Turn.trans {b : Nat} {w w' w'' : World} (h : Turn b w w') (k : Turn b w' w'') : Turn b w w'' :=
  ⟨k.1.trans h.1, k.2.1.trans h.2.1, k.2.2.1.trans h.2.2.1, Nat.le_trans h.2.2.2.1 k.2.2.2.1, fun n hn hb => (k.2.2.2.2 n (Nat.lt_of_lt_of_le hn h.2.2.2.1) hb).trans (h.2.2.2.2 n hn hb)⟩
theorem Turn.setCell {b : Nat} {a w : World} (h : Turn b a w) (i : Nat) (v : Value) : Turn b a (w.setCell ⟨b, i, none⟩ v) :=
  h.trans ⟨rfl, rfl, rfl, by simp [World.setCell], fun k _ hk => by
    unfold World.setCell
    simp only [Array.getElem?_modify]
    rw [if_neg (fun e => hk e.symm)]⟩
theorem Turn.drew {b : Nat} {a w : World} (h : Turn b a w) : Turn b a w.drew := h
theorem Turn.alloc {b : Nat} {a w : World} (h : Turn b a w) (o : Obj) : Turn b a (w.alloc o) := h.trans (.of_below ((Below.refl _ _).alloc (Nat.le_refl _) _))
theorem cell_lt {w : World} {b i : Nat} {v : Value} (h : w.cell? ⟨b, i, none⟩ = some v) : b < w.heap.size := by
  unfold World.cell? at h
  by_cases hb : b < w.heap.size
  · exact hb
  · rw [Array.getElem?_eq_none (show w.heap.size ≤ (⟨b, i, none⟩ : Addr).block by simpa using hb)] at h
    cases h
theorem Turn.cell {b k i : Nat} {w w' : World} {v : Value} (h : Turn b w w') (hk : k ≠ b) (hc : w.cell? ⟨k, i, none⟩ = some v) : w'.cell? ⟨k, i, none⟩ = some v :=
  (World.cell?_of_block (a := ⟨k, i, none⟩) (h.2.2.2.2 k (cell_lt hc) hk)).trans hc
theorem Turn.frozen {b k i : Nat} {w w' : World} (h : Turn b w w') (hk : k ≠ b) (hlt : k < w.heap.size) : w'.frozen? ⟨k, i, none⟩ = w.frozen? ⟨k, i, none⟩ :=
  World.frozen?_of_block (a := ⟨k, i, none⟩) (h.2.2.2.2 k hlt hk)
def tame : Value → Bool
  | .int .u32 _ => false
  | .int .i32 _ => false
  | .map _ => false
  | _ => true
structure KeepsT (w w' : World) : Prop where
  cell : ∀ b i v, tame v = true → w.cell? ⟨b, i, none⟩ = some v → w'.cell? ⟨b, i, none⟩ = some v
  one : ∀ b, OneCell w b → OneCell w' b
theorem Keeps.tame {w w' : World} (h : Keeps w w') : KeepsT w w' := ⟨fun b i v _ hv => h.cell b i v hv, h.one⟩
theorem KeepsT.trans {a b c : World} (h : KeepsT a b) (k : KeepsT b c) : KeepsT a c := ⟨fun n i v ht hv => k.cell n i v ht (h.cell n i v ht hv), fun b hb => k.one b (h.one b hb)⟩
theorem one_setCell {w : World} {b n j : Nat} {x y : Value} (hc : w.cell? ⟨b, j, none⟩ = some x) (h : OneCell w n) : OneCell (w.setCell ⟨b, j, none⟩ y) n := by
  refine ⟨by simpa [World.setCell] using h.1, fun i v hv => ?_⟩
  by_cases e : (⟨n, i, none⟩ : Addr) = ⟨b, j, none⟩
  · cases e
    exact h.2 _ _ hc
  · rw [World.cell?_setCell_other _ _ _ _ (fun h => e (by first | exact h | exact h.symm))] at hv
    exact h.2 i v hv
theorem keepsT_setCell {w : World} {b j : Nat} {x y : Value} (hc : w.cell? ⟨b, j, none⟩ = some x) (hx : tame x = false) : KeepsT w (w.setCell ⟨b, j, none⟩ y) := by
  refine ⟨fun n i v ht hv => ?_, fun n hn => one_setCell hc hn⟩
  by_cases e : (⟨n, i, none⟩ : Addr) = ⟨b, j, none⟩
  · rw [e, hc] at hv
    cases hv
    rw [hx] at ht
    cases ht
  · rw [World.cell?_setCell_other _ _ _ _ (fun h => e (by first | exact h | exact h.symm))]
    exact hv
theorem DoOK.tame {w w' : World} {f : Value} {d : Doer} (h : DoOK w f d) (hk : KeepsT w w') : DoOK w' f d := by
  cases d with
  | plain k => exact h
  | truths k => obtain ⟨p, h1, h2⟩ := h; exact ⟨p, h1, hk.cell _ _ _ rfl h2⟩
  | tagged t => obtain ⟨p, h1, h2, h3⟩ := h; exact ⟨p, h1, hk.cell _ _ _ rfl h2, hk.one _ h3⟩
theorem DoOK.is_tame {w : World} {f : Value} {d : Doer} (h : DoOK w f d) : Proofs.YtegbhdeaicgpkaaGreatDoor.tame f = true := by
  cases d with
  | plain k => cases h; rfl
  | truths k => obtain ⟨p, h1, h2⟩ := h; cases h1; rfl
  | tagged t => obtain ⟨p, h1, h2⟩ := h; cases h1; rfl
theorem OwnE.tame {w w' : World} {v : Value} {x y : Int} {d : Doer} (h : OwnE w v x y d) (hk : KeepsT w w') : OwnE w' v x y d := by
  obtain ⟨pl, pm, pd, f, e, h1, h2, h3, h4⟩ := h
  exact ⟨pl, pm, pd, f, e, hk.cell _ _ _ rfl h1, hk.cell _ _ _ rfl h2, hk.cell _ _ _ h4.is_tame h3, h4.tame hk⟩
theorem LayE.tame {w w' : World} {v : Value} {s : ByteArray} {i : Nat} (h : LayE w v s i) (hk : KeepsT w w') : LayE w' v s i := by
  obtain ⟨pb, pn, e, h0, h1, h2, h3⟩ := h
  exact ⟨pb, pn, e, hk.cell _ _ _ rfl h0, hk.cell _ _ _ rfl h1, hk.cell _ _ _ rfl h2, hk.cell _ _ _ rfl h3⟩
theorem EntE.tame {w w' : World} {v : Value} {s : ByteArray} (h : EntE w s v) (hk : KeepsT w w') : EntE w' s v := by
  rcases h with ⟨x, y, d, e, h⟩ | ⟨i, e, h⟩
  · exact .inl ⟨x, y, d, e, h.tame hk⟩
  · exact .inr ⟨i, e, h.tame hk⟩
def MapInv (w : World) (m : Nat) : Prop := ∃ L, w.heap[m]? = some (.map (ents L 0).toArray L.length) ∧ (∀ s v, getU s L = some v → EntE w s v) ∧ (∀ s, (getU s L).isSome = D1 50 s) ∧ (L.map (·.1)).Nodup
theorem MadeInv.map {w0 w : World} {m : Nat} (h : MadeInv w0 m (D1 50) w) : MapInv w m := by
  obtain ⟨L, _, _, h3, h4, h5⟩ := h
  exact ⟨L, h3, h4, h5⟩
theorem MadeInv.since {w0 w : World} {m : Nat} {D : ByteArray → Bool} (h : MadeInv w0 m D w) : Below w0.heap.size w0 w := by
  obtain ⟨L, h1, _⟩ := h
  exact h1
theorem MapInv.lt {w : World} {m : Nat} (h : MapInv w m) : m < w.heap.size := by
  obtain ⟨L, h3, _⟩ := h
  exact (Array.getElem?_eq_some_iff.1 h3).1
theorem MapInv.kept {w w' : World} {m : Nat} (h : MapInv w m) (hb : w'.heap[m]? = w.heap[m]?) (hk : KeepsT w w') : MapInv w' m := by
  obtain ⟨L, h3, h4, h5⟩ := h
  exact ⟨L, hb.trans h3, fun s v hv => (h4 s v hv).tame hk, h5⟩
theorem MapInv.below {w w' : World} {m : Nat} (h : MapInv w m) (hb : Below w.heap.size w w') : MapInv w' m :=
  h.kept (hb.block m h.lt) (keeps_below hb).tame
theorem MapInv.setCell {w : World} {m b j : Nat} {x y : Value} (h : MapInv w m) (hc : w.cell? ⟨b, j, none⟩ = some x) (hx : Proofs.YtegbhdeaicgpkaaGreatDoor.tame x = false) : MapInv (w.setCell ⟨b, j, none⟩ y) m := by
  refine h.kept ?_ (keepsT_setCell hc hx)
  obtain ⟨L, h3, h4, h5⟩ := h
  by_cases e : b = m
  · subst e
    unfold World.cell? at hc
    rw [h3] at hc
    cases hc
  · unfold World.setCell
    simp only [Array.getElem?_modify]
    rw [if_neg e]
theorem MapInv.drew {w : World} {m : Nat} (h : MapInv w m) : MapInv w.drew m := h
end Go.Proofs.YtegbhdeaicgpkaaGreatDoor
