/-
  The program's texts.find: which functions there are, what each takes, and which function answers, for every name.
-/
import Derived.Test.YtpcihefhagipmaaGreatDoorNum
import Derived.Test.YtpcihefhagipmaaGreatDoorSet
import Derived.Laws.EntriesVeiled
import Derived.Test.YtpcihefhagipmaaGreatDoorShelfRep
namespace Go.Proofs.YtpcihefhagipmaaGreatDoor
open Go Go.RowKit

def projT : Value → Option (ByteArray × Int)
  | .agg ⟨[.string s, .int _ a, _]⟩ => some (s, a)
  | _ => none
def projTF : Value → Option Value
  | .agg ⟨[_, _, f]⟩ => some f
  | _ => none
def textTab (s : ByteArray) : Option (ByteArray × Int) :=
  if (⟨#[78, 85, 77]⟩ : ByteArray) = s then some (⟨#[115]⟩, 1) else
  if (⟨#[82, 69, 86]⟩ : ByteArray) = s then some (⟨#[115]⟩, 1) else
  if (⟨#[69, 88, 65, 67, 84]⟩ : ByteArray) = s then some (⟨#[115, 115]⟩, 2) else
  if (⟨#[67, 72, 65, 82]⟩ : ByteArray) = s then some (⟨#[110]⟩, 1) else
  if (⟨#[79, 82, 68]⟩ : ByteArray) = s then some (⟨#[115]⟩, 1) else
  if (⟨#[67, 79, 78, 67, 65, 84]⟩ : ByteArray) = s then some (⟨#[115, 115, 115, 115, 115, 115, 115, 115, 115, 115, 115, 115, 115, 115, 115, 115]⟩, 1) else
  if (⟨#[83, 85, 66, 83, 84]⟩ : ByteArray) = s then some (⟨#[115, 115, 115]⟩, 3) else
  if (⟨#[70, 73, 78, 68]⟩ : ByteArray) = s then some (⟨#[115, 115, 110]⟩, 2) else
  if (⟨#[82, 69, 80, 84]⟩ : ByteArray) = s then some (⟨#[115, 110]⟩, 2) else
  if (⟨#[84, 82, 73, 77]⟩ : ByteArray) = s then some (⟨#[115]⟩, 1) else
  if (⟨#[76, 79, 87, 69, 82]⟩ : ByteArray) = s then some (⟨#[115]⟩, 1) else
  if (⟨#[85, 80, 80, 69, 82]⟩ : ByteArray) = s then some (⟨#[115]⟩, 1) else
  if (⟨#[77, 73, 68]⟩ : ByteArray) = s then some (⟨#[115, 110, 110]⟩, 3) else
  if (⟨#[82, 73, 71, 72, 84]⟩ : ByteArray) = s then some (⟨#[115, 110]⟩, 1) else
  if (⟨#[76, 69, 70, 84]⟩ : ByteArray) = s then some (⟨#[115, 110]⟩, 1) else
  if (⟨#[76, 69, 78]⟩ : ByteArray) = s then some (⟨#[115]⟩, 1) else none
def textFn (p q : Nat) (s : ByteArray) : Option Value :=
  if (⟨#[78, 85, 77]⟩ : ByteArray) = s then some (.func (.func 165) #[] #[]) else
  if (⟨#[82, 69, 86]⟩ : ByteArray) = s then some (.func (.func 221) #[] #[.pointer (some ⟨q, 0, none⟩)]) else
  if (⟨#[69, 88, 65, 67, 84]⟩ : ByteArray) = s then some (.func (.func 163) #[] #[]) else
  if (⟨#[67, 72, 65, 82]⟩ : ByteArray) = s then some (.func (.func 162) #[] #[]) else
  if (⟨#[79, 82, 68]⟩ : ByteArray) = s then some (.func (.func 161) #[] #[]) else
  if (⟨#[67, 79, 78, 67, 65, 84]⟩ : ByteArray) = s then some (.func (.func 160) #[] #[]) else
  if (⟨#[83, 85, 66, 83, 84]⟩ : ByteArray) = s then some (.func (.func 158) #[] #[]) else
  if (⟨#[70, 73, 78, 68]⟩ : ByteArray) = s then some (.func (.func 157) #[] #[]) else
  if (⟨#[82, 69, 80, 84]⟩ : ByteArray) = s then some (.func (.func 156) #[] #[]) else
  if (⟨#[84, 82, 73, 77]⟩ : ByteArray) = s then some (.func (.func 221) #[] #[.pointer (some ⟨p + 3, 0, none⟩)]) else
  if (⟨#[76, 79, 87, 69, 82]⟩ : ByteArray) = s then some (.func (.func 221) #[] #[.pointer (some ⟨p + 2, 0, none⟩)]) else
  if (⟨#[85, 80, 80, 69, 82]⟩ : ByteArray) = s then some (.func (.func 221) #[] #[.pointer (some ⟨p + 1, 0, none⟩)]) else
  if (⟨#[77, 73, 68]⟩ : ByteArray) = s then some (.func (.func 150) #[] #[]) else
  if (⟨#[82, 73, 71, 72, 84]⟩ : ByteArray) = s then some (.func (.func 149) #[] #[]) else
  if (⟨#[76, 69, 70, 84]⟩ : ByteArray) = s then some (.func (.func 148) #[] #[]) else
  if (⟨#[76, 69, 78]⟩ : ByteArray) = s then some (.func (.func 146) #[] #[]) else none
def TextCells (p q : Nat) (w' : World) : Prop := w'.cell? ⟨p + 1, 0, none⟩ = some (.func (.func 152) #[] #[]) ∧ w'.cell? ⟨p + 2, 0, none⟩ = some (.func (.func 154) #[] #[]) ∧
  w'.cell? ⟨p + 3, 0, none⟩ = some (.func (.func 155) #[] #[]) ∧ w'.cell? ⟨q, 0, none⟩ = some (.func (.func 164) #[] #[])
/-- what find answers, at a name that there is -/
def TextFound (s : ByteArray) (c : ByteArray) (x : Int) (e : Ending) (w' : World) : Prop := ∃ fn first cap, e = .returned (.tuple #[.agg #[.string c, .int .i64 x, .func fn first cap], .bool true]) ∧
  ∃ p q, textFn p q s = some (.func fn first cap) ∧ TextCells p q w'
def TextMissed (e : Ending) : Prop := e = .returned (.tuple #[.agg #[.string ⟨#[]⟩, .int .i64 0, .nilFunc], .bool false])
def TextPost (s : ByteArray) (e : Ending) (w' : World) : Prop := (∃ c x, textTab s = some (c, x) ∧ TextFound s c x e w') ∨ (textTab s = none ∧ TextMissed e)
theorem rep16 (w : World) : Calls Tryz.prog 159 #[.string ⟨#[115]⟩, .int .i64 16] w fun e w' => e = .returned (.string ⟨#[115, 115, 115, 115, 115, 115, 115, 115, 115, 115, 115, 115, 115, 115, 115, 115]⟩) ∧ Below w.heap.size w w' :=
  Tryz.strings_Repeat_main ⟨#[115]⟩ 16 w (by decide) (by decide) (by decide) (by decide)

set_option maxRecDepth 100000 in
set_option maxHeartbeats 4000000 in
theorem texts_find0 (s : ByteArray) (w : World) : Calls Tryz.prog 92 #[.string s] w fun e w' => TextPost s e w' ∧ Below w.heap.size w w' := by
  have hmk : ∀ w, (Instr.makeMap 172 none).run Tryz.prog w = .ok (.map (some w.heap.size)) (setMap (w.alloc (.map #[] 0)) w.heap.size []) := fun w => run_makeMapS w _
  have hst : ∀ (w : World) (b : Nat) (L : List (ByteArray × Value)) (s : ByteArray) (v : Value), b < w.heap.size → (Instr.mapUpdate 172 (.map (some b)) (.string s) v).run Tryz.prog (setMap w b L) = .ok () (setMap w b (ups s v L)) := fun w b L s v h => run_storeS Tryz.underlying9 Tryz.underlying172 w h s v L
  have hst2 : ∀ (w : World) (l : List Obj) (n : Nat) (o : Obj) (b : Nat) (L : List (ByteArray × Value)) (s : ByteArray) (v : Value), b < w.heap.size → (Instr.mapUpdate 172 (.map (some b)) (.string s) v).run Tryz.prog (setMap ((more w l n).alloc o) b L) = .ok () (setMap ((more w l n).alloc o) b (ups s v L)) := fun w l n o b L s v h => run_storeS Tryz.underlying9 Tryz.underlying172 _ (by simp; omega) s v L
  have hn1 : ∀ l : List Obj, w.heap.size < w.heap.size + 1 + 1 + 1 + 1 + 1 + l.length := fun l => by omega
  have hn2 : ∀ l : List Obj, w.heap.size + 1 < w.heap.size + 1 + 1 + 1 + 1 + 1 + l.length := fun l => by omega
  have hn3 : ∀ l : List Obj, w.heap.size ≤ w.heap.size + 1 + 1 + 1 + 1 + 1 + l.length := fun l => by omega
  have hn4 : ∀ l : List Obj, w.heap.size + 1 ≤ w.heap.size + 1 + 1 + 1 + 1 + 1 + l.length := fun l => by omega
  have hn5 : ∀ l : List Obj, ¬ w.heap.size = w.heap.size + 1 + 1 + 1 + 1 + 1 + l.length := fun l => by omega
  have hn6 : ∀ l : List Obj, ¬ w.heap.size + 1 = w.heap.size + 1 + 1 + 1 + 1 + 1 + l.length := fun l => by omega
  have hn7 : ∀ l : List Obj, ¬ w.heap.size + 1 = w.heap.size + 1 + 1 + 1 + 1 + 1 + l.length + 1 := fun l => by omega
  go_enter Tryz.func92, Tryz.ntmps92
  go_wp2_with (first | (go_at_call 151; go_in) | (go_at_call 159; refine (rep16 _).mono ?_; rintro e w1 ⟨rfl, hb⟩; obtain ⟨l, n, rfl⟩ := more_of_below hb; clear hb) | (at_lookup; refine wpList_lookT rfl 172 _ _ rfl 9 127 Tryz.underlying9 Tryz.underlying172 (.agg #[.string ⟨#[]⟩, .int .i64 0, .nilFunc]) (fun w => by kernel_rfl) _ _ _ rfl (by simp; omega) _ rfl ?_ ?_ ?_))
  · repeat (with_reducible refine AllV.ups ?_ (funT _ _ _ _ _))
    exact AllV.nil _
  · intro c x fn first cap hv
    go_wp2
    refine bodyPost_ret (by simp [results, Tryz.results92, go_sem, hn1, hn2, hn3, hn4, hn5, hn6, hn7]; try rfl) rfl ?_
    refine ⟨.inl ⟨c, x, ?_, fn, first, cap, rfl, w.heap.size + 1, w.heap.size + 1 + 1 + 1 + 1 + 1 + l.length, ?_, ?_⟩, ?_⟩
    · have h := congrArg (fun o => o.bind projT) hv.out
      simp only [bind_ups, bind_nil] at h
      exact h
    · have h := congrArg (fun o => o.bind projTF) hv.out
      simp only [bind_ups, bind_nil] at h
      exact h
    · clear hv
      refine ⟨?_, ?_, ?_, ?_⟩
      iterate 3
        · rw [setMap_cell (by omega), World.cell?_alloc_past _ _ _ (by simp only [World.size_alloc, more_size]; omega), World.cell?_alloc_past _ _ _ (by simp only [World.size_alloc, more_size]; omega), more_cell (by simp only [World.size_alloc, more_size]; omega)]
          go_simp
      · rw [setMap_cell (by omega), World.cell?_alloc_past _ _ _ (by simp only [World.size_alloc, more_size]; omega), World.cell?_alloc_at _ _ _ _ (by simp only [World.size_alloc, more_size])]
        rfl
    · refine below_setMap ?_ (by simp)
      exact (by repeat (first | with_reducible exact Below.refl _ _ | with_reducible assumption | with_reducible refine below_more' ?_ (by go_size) | with_reducible refine bel_alloc ?_ _ (by go_size) | with_reducible refine Below.drew ?_ | with_reducible refine Below.setCell ?_ (by go_size) _ | with_reducible refine below_drewN ?_ _))
  · intro hv
    go_wp2
    refine bodyPost_ret (by simp [results, Tryz.results92, go_sem, hn1, hn2, hn3, hn4, hn5, hn6, hn7]; try rfl) rfl ?_
    refine ⟨.inr ⟨?_, rfl⟩, ?_⟩
    · have h := congrArg (fun o => o.bind projT) hv.out
      simp only [bind_ups, bind_nil] at h
      exact h
    · refine below_setMap ?_ (by simp)
      exact (by repeat (first | with_reducible exact Below.refl _ _ | with_reducible assumption | with_reducible refine below_more' ?_ (by go_size) | with_reducible refine bel_alloc ?_ _ (by go_size) | with_reducible refine Below.drew ?_ | with_reducible refine Below.setCell ?_ (by go_size) _ | with_reducible refine below_drewN ?_ _))
theorem texts_find_yes (s : ByteArray) (c : ByteArray) (x : Int) (h : textTab s = some (c, x)) (w : World) : Calls Tryz.prog 92 #[.string s] w fun e w' => TextFound s c x e w' ∧ Below w.heap.size w w' :=
  (texts_find0 s w).mono fun e w' ⟨hp, hb⟩ => by
    rcases hp with ⟨c', x', h', hf⟩ | ⟨h', _⟩
    · rw [h] at h'; cases h'; exact ⟨hf, hb⟩
    · rw [h] at h'; cases h'
theorem texts_find_no (s : ByteArray) (h : textTab s = none) (w : World) : Calls Tryz.prog 92 #[.string s] w fun e w' => TextMissed e ∧ Below w.heap.size w w' :=
  (texts_find0 s w).mono fun e w' ⟨hp, hb⟩ => by
    rcases hp with ⟨c', x', h', hf⟩ | ⟨_, hm⟩
    · rw [h] at h'; cases h'
    · exact ⟨hm, hb⟩
end Go.Proofs.YtpcihefhagipmaaGreatDoor
