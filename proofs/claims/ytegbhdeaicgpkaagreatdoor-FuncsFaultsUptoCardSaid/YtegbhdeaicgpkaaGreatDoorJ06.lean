/-
  Parts of a proof: Find, FindA.
-/
import Derived.Test.YtegbhdeaicgpkaaGreatDoorJ02
import Derived.Test.YtegbhdeaicgpkaaGreatDoorJ03
import Derived.Laws.EntriesVeiled
set_option linter.all false
namespace Go.Proofs.YtegbhdeaicgpkaaGreatDoor
open Go Go.RowKit
def projN : Value → Option (Int × Int)
  | .agg ⟨[.int _ a, .int _ b, _]⟩ => some (a, b)
  | _ => none
def projNF : Value → Option Value
  | .agg ⟨[_, _, f]⟩ => some f
  | _ => none
def numTab (s : ByteArray) : Option (Int × Int) :=
  if (⟨#[79, 68, 68]⟩ : ByteArray) = s then some (1, 1) else
  if (⟨#[67, 76, 65, 77, 80]⟩ : ByteArray) = s then some (3, 3) else
  if (⟨#[70, 65, 67, 84]⟩ : ByteArray) = s then some (1, 1) else
  if (⟨#[76, 67, 77]⟩ : ByteArray) = s then some (1, 16) else
  if (⟨#[71, 67, 68]⟩ : ByteArray) = s then some (1, 16) else
  if (⟨#[83, 81, 82, 84]⟩ : ByteArray) = s then some (1, 1) else
  if (⟨#[80, 79, 87, 69, 82]⟩ : ByteArray) = s then some (2, 2) else
  if (⟨#[81, 85, 79, 84]⟩ : ByteArray) = s then some (2, 2) else
  if (⟨#[77, 79, 68]⟩ : ByteArray) = s then some (2, 2) else
  if (⟨#[67, 69, 73, 76]⟩ : ByteArray) = s then some (2, 2) else
  if (⟨#[70, 76, 79, 79, 82]⟩ : ByteArray) = s then some (2, 2) else
  if (⟨#[82, 79, 85, 78, 68]⟩ : ByteArray) = s then some (1, 2) else
  if (⟨#[84, 82, 85, 78, 67]⟩ : ByteArray) = s then some (1, 2) else
  if (⟨#[73, 78, 84]⟩ : ByteArray) = s then some (1, 1) else
  if (⟨#[83, 73, 71, 78]⟩ : ByteArray) = s then some (1, 1) else
  if (⟨#[65, 66, 83]⟩ : ByteArray) = s then some (1, 1) else none
def numFn (p1 p2 p3 : Nat) (s : ByteArray) : Option Value :=
  if (⟨#[79, 68, 68]⟩ : ByteArray) = s then some (.func (.func 77) #[] #[]) else
  if (⟨#[67, 76, 65, 77, 80]⟩ : ByteArray) = s then some (.func (.func 76) #[] #[]) else
  if (⟨#[70, 65, 67, 84]⟩ : ByteArray) = s then some (.func (.func 75) #[] #[]) else
  if (⟨#[76, 67, 77]⟩ : ByteArray) = s then some (.func (.func 74) #[] #[]) else
  if (⟨#[71, 67, 68]⟩ : ByteArray) = s then some (.func (.func 73) #[] #[]) else
  if (⟨#[83, 81, 82, 84]⟩ : ByteArray) = s then some (.func (.func 71) #[] #[]) else
  if (⟨#[80, 79, 87, 69, 82]⟩ : ByteArray) = s then some (.func (.func 150) #[] #[.pointer (some ⟨p3, 0, none⟩)]) else
  if (⟨#[81, 85, 79, 84]⟩ : ByteArray) = s then some (.func (.func 69) #[] #[]) else
  if (⟨#[77, 79, 68]⟩ : ByteArray) = s then some (.func (.func 67) #[] #[]) else
  if (⟨#[67, 69, 73, 76]⟩ : ByteArray) = s then some (.func (.func 66) #[] #[]) else
  if (⟨#[70, 76, 79, 79, 82]⟩ : ByteArray) = s then some (.func (.func 64) #[] #[]) else
  if (⟨#[82, 79, 85, 78, 68]⟩ : ByteArray) = s then some (.func (.func 150) #[] #[.pointer (some ⟨p2, 0, none⟩)]) else
  if (⟨#[84, 82, 85, 78, 67]⟩ : ByteArray) = s then some (.func (.func 150) #[] #[.pointer (some ⟨p1, 0, none⟩)]) else
  if (⟨#[73, 78, 84]⟩ : ByteArray) = s then some (.func (.func 58) #[] #[]) else
  if (⟨#[83, 73, 71, 78]⟩ : ByteArray) = s then some (.func (.func 57) #[] #[]) else
  if (⟨#[65, 66, 83]⟩ : ByteArray) = s then some (.func (.func 55) #[] #[]) else none
def NumFound (s : ByteArray) (x y : Int) (e : Ending) (w' : World) : Prop := ∃ fn first cap, e = .returned (.tuple #[.agg #[.int .i64 x, .int .i64 y, .func fn first cap], .bool true]) ∧
  ∃ p1 p2 p3, numFn p1 p2 p3 s = some (.func fn first cap) ∧ w'.cell? ⟨p1, 0, none⟩ = some (.func (.func 62) #[] #[]) ∧ w'.cell? ⟨p2, 0, none⟩ = some (.func (.func 63) #[] #[]) ∧ w'.cell? ⟨p3, 0, none⟩ = some (.func (.func 70) #[] #[])
def NumMissed (e : Ending) : Prop := e = .returned (.tuple #[.agg #[.int .i64 0, .int .i64 0, .nilFunc], .bool false])
def NumPost (s : ByteArray) (e : Ending) (w' : World) : Prop := (∃ x y, numTab s = some (x, y) ∧ NumFound s x y e w') ∨ (numTab s = none ∧ NumMissed e)
set_option maxRecDepth 100000 in
set_option maxHeartbeats 4000000 in
theorem nums_find0 (s : ByteArray) (w : World) : Calls Tryz.prog 28 #[.string s] w fun e w' => NumPost s e w' ∧ Below w.heap.size w w' := by
  have hmk : ∀ w, (Instr.makeMap 144 none).run Tryz.prog w = .ok (.map (some w.heap.size)) (setMap (w.alloc (.map #[] 0)) w.heap.size []) := fun w => run_makeMapS w _
  have hst : ∀ (w : World) (b : Nat) (L : List (ByteArray × Value)) (s : ByteArray) (v : Value), b < w.heap.size → (Instr.mapUpdate 144 (.map (some b)) (.string s) v).run Tryz.prog (setMap w b L) = .ok () (setMap w b (ups s v L)) := fun w b L s v h => run_storeS Tryz.underlying9 Tryz.underlying144 w h s v L
  go_enter Tryz.func28, Tryz.ntmps28
  go_wp2_with (first | go_in | (at_lookup; refine wpList_lookN rfl 144 _ _ rfl 9 93 Tryz.underlying9 Tryz.underlying144 (.agg #[.int .i64 0, .int .i64 0, .nilFunc]) (fun w => by kernel_rfl) _ _ _ rfl (by simp) _ rfl ?_ ?_ ?_))
  · repeat (with_reducible refine AllV.ups ?_ (funN _ _ _ _ _))
    exact AllV.nil _
  · intro x y fn first cap hv
    go_wp2
    go_returns
    refine ⟨.inl ⟨x, y, ?_, fn, first, cap, rfl, w.heap.size + 1 + 1, w.heap.size + 1 + 1 + 1, w.heap.size + 1 + 1 + 1 + 1, ?_, ?_, ?_, ?_⟩, ?_⟩
    · have h := congrArg (fun o => o.bind projN) hv.out
      simp only [bind_ups, bind_nil] at h
      exact h
    · have h := congrArg (fun o => o.bind projNF) hv.out
      simp only [bind_ups, bind_nil] at h
      exact h
    · clear hv; go_simp
    · clear hv; go_simp
    · clear hv; go_simp
    · refine below_setMap ?_ (by simp)
      exact (by (with_reducible repeat' (first | exact .refl _ _ | assumption | refine bmP ?_ ?_ | refine baP ?_ _ ?_ | refine .drew ?_ | refine .setCell ?_ ?_ _ | refine bdP ?_ _)) <;> go_size)
  · intro hv
    go_wp2
    go_returns
    refine ⟨.inr ⟨?_, rfl⟩, ?_⟩
    · have h := congrArg (fun o => o.bind projN) hv.out
      simp only [bind_ups, bind_nil] at h
      exact h
    · refine below_setMap ?_ (by simp)
      exact (by (with_reducible repeat' (first | exact .refl _ _ | assumption | refine bmP ?_ ?_ | refine baP ?_ _ ?_ | refine .drew ?_ | refine .setCell ?_ ?_ _ | refine bdP ?_ _)) <;> go_size)
theorem nums_find_yes (s : ByteArray) (x y : Int) (h : numTab s = some (x, y)) (w : World) : Calls Tryz.prog 28 #[.string s] w fun e w' => NumFound s x y e w' ∧ Below w.heap.size w w' :=
  (nums_find0 s w).mono fun e w' ⟨hp, hb⟩ => by
    rcases hp with ⟨x', y', h', hf⟩ | ⟨h', _⟩
    · rw [h] at h'; cases h'; exact ⟨hf, hb⟩
    · rw [h] at h'; cases h'
theorem nums_find_no (s : ByteArray) (h : numTab s = none) (w : World) : Calls Tryz.prog 28 #[.string s] w fun e w' => NumMissed e ∧ Below w.heap.size w w' :=
  (nums_find0 s w).mono fun e w' ⟨hp, hb⟩ => by
    rcases hp with ⟨x', y', h', hf⟩ | ⟨_, hm⟩
    · rw [h] at h'; cases h'
    · exact ⟨hm, hb⟩
end Go.Proofs.YtegbhdeaicgpkaaGreatDoor
namespace Go.Proofs.YtegbhdeaicgpkaaGreatDoor
open Go Go.RowKit
def projA : Value → Option (ByteArray × Int × Int)
  | .agg ⟨[.string s, .int _ a, .int _ b, _]⟩ => some (s, a, b)
  | _ => none
def projAF : Value → Option Value
  | .agg ⟨[_, _, _, f]⟩ => some f
  | _ => none
def aggTab (s : ByteArray) : Option (ByteArray × Int × Int) :=
  if (⟨#[67, 79, 76, 83]⟩ : ByteArray) = s then some (⟨#[114]⟩, 1, 1) else
  if (⟨#[82, 79, 87, 83]⟩ : ByteArray) = s then some (⟨#[114]⟩, 1, 1) else
  if (⟨#[74, 79, 73, 78]⟩ : ByteArray) = s then some (⟨#[118, 120]⟩, 2, 16) else
  if (⟨#[76, 65, 82, 71, 69]⟩ : ByteArray) = s then some (⟨#[114, 118]⟩, 2, 2) else
  if (⟨#[73, 78, 68, 69, 88]⟩ : ByteArray) = s then some (⟨#[114, 118, 118]⟩, 3, 3) else
  if (⟨#[76, 79, 79, 75, 85, 80]⟩ : ByteArray) = s then some (⟨#[118, 114, 114]⟩, 3, 3) else
  if (⟨#[77, 65, 84, 67, 72]⟩ : ByteArray) = s then some (⟨#[118, 114]⟩, 2, 2) else
  if (⟨#[83, 85, 77, 73, 70]⟩ : ByteArray) = s then some (⟨#[114, 118, 114]⟩, 3, 3) else
  if (⟨#[67, 79, 85, 78, 84, 73, 70]⟩ : ByteArray) = s then some (⟨#[114, 118]⟩, 2, 2) else
  if (⟨#[66, 76, 65, 78, 75, 83]⟩ : ByteArray) = s then some (⟨#[114]⟩, 1, 1) else
  if (⟨#[67, 79, 85, 78, 84, 65]⟩ : ByteArray) = s then some (⟨#[120]⟩, 1, 16) else
  if (⟨#[67, 79, 85, 78, 84]⟩ : ByteArray) = s then some (⟨#[120]⟩, 1, 16) else
  if (⟨#[77, 69, 68, 73, 65, 78]⟩ : ByteArray) = s then some (⟨#[120]⟩, 1, 16) else
  if (⟨#[65, 86, 71]⟩ : ByteArray) = s then some (⟨#[120]⟩, 1, 16) else
  if (⟨#[77, 65, 88]⟩ : ByteArray) = s then some (⟨#[120]⟩, 1, 16) else
  if (⟨#[77, 73, 78]⟩ : ByteArray) = s then some (⟨#[120]⟩, 1, 16) else
  if (⟨#[80, 82, 79, 68]⟩ : ByteArray) = s then some (⟨#[120]⟩, 1, 16) else
  if (⟨#[83, 85, 77]⟩ : ByteArray) = s then some (⟨#[120]⟩, 1, 16) else none
def aggFn (p : Nat) (s : ByteArray) : Option Value :=
  if (⟨#[67, 79, 76, 83]⟩ : ByteArray) = s then some (.func (.func 127) #[] #[]) else
  if (⟨#[82, 79, 87, 83]⟩ : ByteArray) = s then some (.func (.func 124) #[] #[]) else
  if (⟨#[74, 79, 73, 78]⟩ : ByteArray) = s then some (.func (.func 123) #[] #[]) else
  if (⟨#[76, 65, 82, 71, 69]⟩ : ByteArray) = s then some (.func (.func 122) #[] #[]) else
  if (⟨#[73, 78, 68, 69, 88]⟩ : ByteArray) = s then some (.func (.func 121) #[] #[]) else
  if (⟨#[76, 79, 79, 75, 85, 80]⟩ : ByteArray) = s then some (.func (.func 120) #[] #[]) else
  if (⟨#[77, 65, 84, 67, 72]⟩ : ByteArray) = s then some (.func (.func 120) #[] #[]) else
  if (⟨#[83, 85, 77, 73, 70]⟩ : ByteArray) = s then some (.func (.func 119) #[] #[]) else
  if (⟨#[67, 79, 85, 78, 84, 73, 70]⟩ : ByteArray) = s then some (.func (.func 118) #[] #[]) else
  if (⟨#[66, 76, 65, 78, 75, 83]⟩ : ByteArray) = s then some (.func (.func 116) #[] #[]) else
  if (⟨#[67, 79, 85, 78, 84, 65]⟩ : ByteArray) = s then some (.func (.func 189) #[] #[.pointer (some ⟨p + 12, 0, none⟩)]) else
  if (⟨#[67, 79, 85, 78, 84]⟩ : ByteArray) = s then some (.func (.func 189) #[] #[.pointer (some ⟨p + 11, 0, none⟩)]) else
  if (⟨#[77, 69, 68, 73, 65, 78]⟩ : ByteArray) = s then some (.func (.func 179) #[] #[.pointer (some ⟨p + 10, 0, none⟩)]) else
  if (⟨#[65, 86, 71]⟩ : ByteArray) = s then some (.func (.func 179) #[] #[.pointer (some ⟨p + 8, 0, none⟩)]) else
  if (⟨#[77, 65, 88]⟩ : ByteArray) = s then some (.func (.func 179) #[] #[.pointer (some ⟨p + 6, 0, none⟩)]) else
  if (⟨#[77, 73, 78]⟩ : ByteArray) = s then some (.func (.func 179) #[] #[.pointer (some ⟨p + 4, 0, none⟩)]) else
  if (⟨#[80, 82, 79, 68]⟩ : ByteArray) = s then some (.func (.func 179) #[] #[.pointer (some ⟨p + 2, 0, none⟩)]) else
  if (⟨#[83, 85, 77]⟩ : ByteArray) = s then some (.func (.func 179) #[] #[.pointer (some ⟨p + 1, 0, none⟩)]) else none
def AggCells (p : Nat) (w' : World) : Prop := w'.cell? ⟨p + 1, 0, none⟩ = some (.func (.func 104) #[] #[]) ∧
  w'.cell? ⟨p + 2, 0, none⟩ = some (.func (.func 107) #[] #[]) ∧
  w'.cell? ⟨p + 3, 0, none⟩ = some (.func (.func 109) #[] #[]) ∧
  w'.cell? ⟨p + 4, 0, none⟩ = some (.func (.func 184) #[] #[.pointer (some ⟨p + 3, 0, none⟩)]) ∧
  w'.cell? ⟨p + 5, 0, none⟩ = some (.func (.func 110) #[] #[]) ∧
  w'.cell? ⟨p + 6, 0, none⟩ = some (.func (.func 184) #[] #[.pointer (some ⟨p + 5, 0, none⟩)]) ∧
  w'.cell? ⟨p + 7, 0, none⟩ = some (.func (.func 111) #[] #[]) ∧
  w'.cell? ⟨p + 8, 0, none⟩ = some (.func (.func 184) #[] #[.pointer (some ⟨p + 7, 0, none⟩)]) ∧
  w'.cell? ⟨p + 9, 0, none⟩ = some (.func (.func 112) #[] #[]) ∧
  w'.cell? ⟨p + 10, 0, none⟩ = some (.func (.func 184) #[] #[.pointer (some ⟨p + 9, 0, none⟩)]) ∧
  w'.cell? ⟨p + 11, 0, none⟩ = some (.func (.func 114) #[] #[]) ∧
  w'.cell? ⟨p + 12, 0, none⟩ = some (.func (.func 115) #[] #[])
def AggFound (s : ByteArray) (c : ByteArray) (x y : Int) (e : Ending) (w' : World) : Prop := ∃ fn first cap, e = .returned (.tuple #[.agg #[.string c, .int .i64 x, .int .i64 y, .func fn first cap], .bool true]) ∧
  ∃ p, aggFn p s = some (.func fn first cap) ∧ AggCells p w'
def AggMissed (e : Ending) : Prop := e = .returned (.tuple #[.agg #[.string ⟨#[]⟩, .int .i64 0, .int .i64 0, .nilFunc], .bool false])
def AggPost (s : ByteArray) (e : Ending) (w' : World) : Prop := (∃ c x y, aggTab s = some (c, x, y) ∧ AggFound s c x y e w') ∨ (aggTab s = none ∧ AggMissed e)
set_option maxRecDepth 100000 in
set_option maxHeartbeats 4000000 in
theorem aggs_find0 (s : ByteArray) (w : World) : Calls Tryz.prog 37 #[.string s] w fun e w' => AggPost s e w' ∧ Below w.heap.size w w' := by
  have hmk : ∀ w, (Instr.makeMap 166 none).run Tryz.prog w = .ok (.map (some w.heap.size)) (setMap (w.alloc (.map #[] 0)) w.heap.size []) := fun w => run_makeMapS w _
  have hst : ∀ (w : World) (b : Nat) (L : List (ByteArray × Value)) (s : ByteArray) (v : Value), b < w.heap.size → (Instr.mapUpdate 166 (.map (some b)) (.string s) v).run Tryz.prog (setMap w b L) = .ok () (setMap w b (ups s v L)) := fun w b L s v h => run_storeS Tryz.underlying9 Tryz.underlying166 w h s v L
  go_enter Tryz.func37, Tryz.ntmps37
  go_wp2_with (first | go_in | (at_lookup; refine wpList_lookA rfl 166 _ _ rfl 9 114 Tryz.underlying9 Tryz.underlying166 (.agg #[.string ⟨#[]⟩, .int .i64 0, .int .i64 0, .nilFunc]) (fun w => by kernel_rfl) _ _ _ rfl (by simp) _ rfl ?_ ?_ ?_))
  · repeat (with_reducible refine AllV.ups ?_ (funA _ _ _ _ _ _))
    exact AllV.nil _
  · intro c x y fn first cap hv
    go_wp2
    go_returns
    refine ⟨.inl ⟨c, x, y, ?_, fn, first, cap, rfl, w.heap.size + 1, ?_, ?_⟩, ?_⟩
    · have h := congrArg (fun o => o.bind projA) hv.out
      simp only [bind_ups, bind_nil] at h
      exact h
    · have h := congrArg (fun o => o.bind projAF) hv.out
      simp only [bind_ups, bind_nil] at h
      exact h
    · clear hv
      unfold AggCells
      go_simp
    · refine below_setMap ?_ (by simp)
      exact (by (with_reducible repeat' (first | exact .refl _ _ | assumption | refine bmP ?_ ?_ | refine baP ?_ _ ?_ | refine .drew ?_ | refine .setCell ?_ ?_ _ | refine bdP ?_ _)) <;> go_size)
  · intro hv
    go_wp2
    go_returns
    refine ⟨.inr ⟨?_, rfl⟩, ?_⟩
    · have h := congrArg (fun o => o.bind projA) hv.out
      simp only [bind_ups, bind_nil] at h
      exact h
    · refine below_setMap ?_ (by simp)
      exact (by (with_reducible repeat' (first | exact .refl _ _ | assumption | refine bmP ?_ ?_ | refine baP ?_ _ ?_ | refine .drew ?_ | refine .setCell ?_ ?_ _ | refine bdP ?_ _)) <;> go_size)
theorem aggs_find_yes (s : ByteArray) (c : ByteArray) (x y : Int) (h : aggTab s = some (c, x, y)) (w : World) : Calls Tryz.prog 37 #[.string s] w fun e w' => AggFound s c x y e w' ∧ Below w.heap.size w w' :=
  (aggs_find0 s w).mono fun e w' ⟨hp, hb⟩ => by
    rcases hp with ⟨c', x', y', h', hf⟩ | ⟨h', _⟩
    · rw [h] at h'; cases h'; exact ⟨hf, hb⟩
    · rw [h] at h'; cases h'
theorem aggs_find_no (s : ByteArray) (h : aggTab s = none) (w : World) : Calls Tryz.prog 37 #[.string s] w fun e w' => AggMissed e ∧ Below w.heap.size w w' :=
  (aggs_find0 s w).mono fun e w' ⟨hp, hb⟩ => by
    rcases hp with ⟨c', x', y', h', hf⟩ | ⟨_, hm⟩
    · rw [h] at h'; cases h'
    · exact ⟨hm, hb⟩
end Go.Proofs.YtegbhdeaicgpkaaGreatDoor
