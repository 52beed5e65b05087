/-
  The program's nums.find: which functions there are, what each takes, and which function answers, for every name.
-/
import Derived.Test.YtpcihefhagipmaaGreatDoorNum
import Derived.Test.YtpcihefhagipmaaGreatDoorSet
import Derived.Laws.EntriesVeiled
namespace Go.Proofs.YtpcihefhagipmaaGreatDoor
open Go Go.RowKit

def projN : Value → Option (Int × Int)
  | .agg ⟨[.int _ a, .int _ b, _]⟩ => some (a, b)
  | _ => none
def projNF : Value → Option Value
  | .agg ⟨[_, _, f]⟩ => some f
  | _ => none
def numTab (s : ByteArray) : Option (Int × Int) :=
  if (⟨#[79, 68, 68]⟩ : ByteArray) = s then some (1, 1) else
  if (⟨#[67, 76, 65, 77, 80]⟩ : ByteArray) = s then some (3, 3) else
  if (⟨#[70, 65, 67, 84]⟩ : ByteArray) = s then some (1, 1) else
  if (⟨#[76, 67, 77]⟩ : ByteArray) = s then some (1, 16) else
  if (⟨#[71, 67, 68]⟩ : ByteArray) = s then some (1, 16) else
  if (⟨#[83, 81, 82, 84]⟩ : ByteArray) = s then some (1, 1) else
  if (⟨#[80, 79, 87, 69, 82]⟩ : ByteArray) = s then some (2, 2) else
  if (⟨#[81, 85, 79, 84]⟩ : ByteArray) = s then some (2, 2) else
  if (⟨#[77, 79, 68]⟩ : ByteArray) = s then some (2, 2) else
  if (⟨#[67, 69, 73, 76]⟩ : ByteArray) = s then some (2, 2) else
  if (⟨#[70, 76, 79, 79, 82]⟩ : ByteArray) = s then some (2, 2) else
  if (⟨#[82, 79, 85, 78, 68]⟩ : ByteArray) = s then some (1, 2) else
  if (⟨#[84, 82, 85, 78, 67]⟩ : ByteArray) = s then some (1, 2) else
  if (⟨#[73, 78, 84]⟩ : ByteArray) = s then some (1, 1) else
  if (⟨#[83, 73, 71, 78]⟩ : ByteArray) = s then some (1, 1) else
  if (⟨#[65, 66, 83]⟩ : ByteArray) = s then some (1, 1) else none
def numFn (p1 p2 p3 : Nat) (s : ByteArray) : Option Value :=
  if (⟨#[79, 68, 68]⟩ : ByteArray) = s then some (.func (.func 143) #[] #[]) else
  if (⟨#[67, 76, 65, 77, 80]⟩ : ByteArray) = s then some (.func (.func 142) #[] #[]) else
  if (⟨#[70, 65, 67, 84]⟩ : ByteArray) = s then some (.func (.func 141) #[] #[]) else
  if (⟨#[76, 67, 77]⟩ : ByteArray) = s then some (.func (.func 140) #[] #[]) else
  if (⟨#[71, 67, 68]⟩ : ByteArray) = s then some (.func (.func 139) #[] #[]) else
  if (⟨#[83, 81, 82, 84]⟩ : ByteArray) = s then some (.func (.func 137) #[] #[]) else
  if (⟨#[80, 79, 87, 69, 82]⟩ : ByteArray) = s then some (.func (.func 208) #[] #[.pointer (some ⟨p3, 0, none⟩)]) else
  if (⟨#[81, 85, 79, 84]⟩ : ByteArray) = s then some (.func (.func 135) #[] #[]) else
  if (⟨#[77, 79, 68]⟩ : ByteArray) = s then some (.func (.func 133) #[] #[]) else
  if (⟨#[67, 69, 73, 76]⟩ : ByteArray) = s then some (.func (.func 132) #[] #[]) else
  if (⟨#[70, 76, 79, 79, 82]⟩ : ByteArray) = s then some (.func (.func 130) #[] #[]) else
  if (⟨#[82, 79, 85, 78, 68]⟩ : ByteArray) = s then some (.func (.func 208) #[] #[.pointer (some ⟨p2, 0, none⟩)]) else
  if (⟨#[84, 82, 85, 78, 67]⟩ : ByteArray) = s then some (.func (.func 208) #[] #[.pointer (some ⟨p1, 0, none⟩)]) else
  if (⟨#[73, 78, 84]⟩ : ByteArray) = s then some (.func (.func 124) #[] #[]) else
  if (⟨#[83, 73, 71, 78]⟩ : ByteArray) = s then some (.func (.func 123) #[] #[]) else
  if (⟨#[65, 66, 83]⟩ : ByteArray) = s then some (.func (.func 122) #[] #[]) else none
/-- what find answers, at a name that there is -/
def NumFound (s : ByteArray) (x y : Int) (e : Ending) (w' : World) : Prop := ∃ fn first cap, e = .returned (.tuple #[.agg #[.int .i64 x, .int .i64 y, .func fn first cap], .bool true]) ∧
  ∃ p1 p2 p3, numFn p1 p2 p3 s = some (.func fn first cap) ∧ w'.cell? ⟨p1, 0, none⟩ = some (.func (.func 128) #[] #[]) ∧ w'.cell? ⟨p2, 0, none⟩ = some (.func (.func 129) #[] #[]) ∧ w'.cell? ⟨p3, 0, none⟩ = some (.func (.func 136) #[] #[])
def NumMissed (e : Ending) : Prop := e = .returned (.tuple #[.agg #[.int .i64 0, .int .i64 0, .nilFunc], .bool false])
def NumPost (s : ByteArray) (e : Ending) (w' : World) : Prop := (∃ x y, numTab s = some (x, y) ∧ NumFound s x y e w') ∨ (numTab s = none ∧ NumMissed e)

set_option maxRecDepth 100000 in
set_option maxHeartbeats 4000000 in
theorem nums_find0 (s : ByteArray) (w : World) : Calls Tryz.prog 88 #[.string s] w fun e w' => NumPost s e w' ∧ Below w.heap.size w w' := by
  have hmk : ∀ w, (Instr.makeMap 164 none).run Tryz.prog w = .ok (.map (some w.heap.size)) (setMap (w.alloc (.map #[] 0)) w.heap.size []) := fun w => run_makeMapS w _
  have hst : ∀ (w : World) (b : Nat) (L : List (ByteArray × Value)) (s : ByteArray) (v : Value), b < w.heap.size → (Instr.mapUpdate 164 (.map (some b)) (.string s) v).run Tryz.prog (setMap w b L) = .ok () (setMap w b (ups s v L)) := fun w b L s v h => run_storeS Tryz.underlying9 Tryz.underlying164 w h s v L
  go_enter Tryz.func88, Tryz.ntmps88
  go_wp2_with (first | go_in | (at_lookup; refine wpList_lookN rfl 164 _ _ rfl 9 118 Tryz.underlying9 Tryz.underlying164 (.agg #[.int .i64 0, .int .i64 0, .nilFunc]) (fun w => by kernel_rfl) _ _ _ rfl (by simp) _ rfl ?_ ?_ ?_))
  · repeat (with_reducible refine AllV.ups ?_ (funN _ _ _ _ _))
    exact AllV.nil _
  · intro x y fn first cap hv
    go_wp2
    go_returns
    refine ⟨.inl ⟨x, y, ?_, fn, first, cap, rfl, w.heap.size + 1 + 1, w.heap.size + 1 + 1 + 1, w.heap.size + 1 + 1 + 1 + 1, ?_, ?_, ?_, ?_⟩, ?_⟩
    · have h := congrArg (fun o => o.bind projN) hv.out
      simp only [bind_ups, bind_nil] at h
      exact h
    · have h := congrArg (fun o => o.bind projNF) hv.out
      simp only [bind_ups, bind_nil] at h
      exact h
    · clear hv; go_simp
    · clear hv; go_simp
    · clear hv; go_simp
    · refine below_setMap ?_ (by simp)
      exact (by repeat (first | with_reducible exact Below.refl _ _ | with_reducible assumption | with_reducible refine below_more' ?_ (by go_size) | with_reducible refine bel_alloc ?_ _ (by go_size) | with_reducible refine Below.drew ?_ | with_reducible refine Below.setCell ?_ (by go_size) _ | with_reducible refine below_drewN ?_ _))
  · intro hv
    go_wp2
    go_returns
    refine ⟨.inr ⟨?_, rfl⟩, ?_⟩
    · have h := congrArg (fun o => o.bind projN) hv.out
      simp only [bind_ups, bind_nil] at h
      exact h
    · refine below_setMap ?_ (by simp)
      exact (by repeat (first | with_reducible exact Below.refl _ _ | with_reducible assumption | with_reducible refine below_more' ?_ (by go_size) | with_reducible refine bel_alloc ?_ _ (by go_size) | with_reducible refine Below.drew ?_ | with_reducible refine Below.setCell ?_ (by go_size) _ | with_reducible refine below_drewN ?_ _))
theorem nums_find_yes (s : ByteArray) (x y : Int) (h : numTab s = some (x, y)) (w : World) : Calls Tryz.prog 88 #[.string s] w fun e w' => NumFound s x y e w' ∧ Below w.heap.size w w' :=
  (nums_find0 s w).mono fun e w' ⟨hp, hb⟩ => by
    rcases hp with ⟨x', y', h', hf⟩ | ⟨h', _⟩
    · rw [h] at h'; cases h'; exact ⟨hf, hb⟩
    · rw [h] at h'; cases h'
theorem nums_find_no (s : ByteArray) (h : numTab s = none) (w : World) : Calls Tryz.prog 88 #[.string s] w fun e w' => NumMissed e ∧ Below w.heap.size w w' :=
  (nums_find0 s w).mono fun e w' ⟨hp, hb⟩ => by
    rcases hp with ⟨x', y', h', hf⟩ | ⟨_, hm⟩
    · rw [h] at h'; cases h'
    · exact ⟨hm, hb⟩
end Go.Proofs.YtpcihefhagipmaaGreatDoor
