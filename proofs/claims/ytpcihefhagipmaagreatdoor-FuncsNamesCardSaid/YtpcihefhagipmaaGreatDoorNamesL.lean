/-
  All names in their order; the keys of the index are they.
-/
import Derived.Test.YtpcihefhagipmaaGreatDoorTurn
import Derived.Sort.KeysCollected
import Derived.Maps.Own
namespace Go.Proofs.YtpcihefhagipmaaGreatDoor
open Go Go.RowKit Go.Maps
open Go.WideElems (Fit rd rg)

set_option maxRecDepth 100000
def names66 : List ByteArray := [⟨#[65, 66, 83]⟩,
  ⟨#[65, 78, 68]⟩,
  ⟨#[65, 83, 75]⟩,
  ⟨#[65, 86, 71]⟩,
  ⟨#[66, 76, 65, 78, 75, 83]⟩,
  ⟨#[67, 69, 73, 76]⟩,
  ⟨#[67, 72, 65, 82]⟩,
  ⟨#[67, 72, 79, 79, 83, 69]⟩,
  ⟨#[67, 76, 65, 77, 80]⟩,
  ⟨#[67, 79, 76, 83]⟩,
  ⟨#[67, 79, 78, 67, 65, 84]⟩,
  ⟨#[67, 79, 85, 78, 84]⟩,
  ⟨#[67, 79, 85, 78, 84, 65]⟩,
  ⟨#[67, 79, 85, 78, 84, 73, 70]⟩,
  ⟨#[69, 82, 82]⟩,
  ⟨#[69, 82, 82, 78, 79]⟩,
  ⟨#[69, 88, 65, 67, 84]⟩,
  ⟨#[70, 65, 67, 84]⟩,
  ⟨#[70, 73, 78, 68]⟩,
  ⟨#[70, 76, 79, 79, 82]⟩,
  ⟨#[71, 67, 68]⟩,
  ⟨#[73, 70]⟩,
  ⟨#[73, 70, 69, 82, 82]⟩,
  ⟨#[73, 78, 68, 69, 88]⟩,
  ⟨#[73, 78, 84]⟩,
  ⟨#[73, 83, 66, 76, 65, 78, 75]⟩,
  ⟨#[73, 83, 66, 79, 79, 76]⟩,
  ⟨#[73, 83, 69, 82, 82]⟩,
  ⟨#[73, 83, 78, 85, 77]⟩,
  ⟨#[73, 83, 84, 69, 88, 84]⟩,
  ⟨#[74, 79, 73, 78]⟩,
  ⟨#[76, 65, 82, 71, 69]⟩,
  ⟨#[76, 67, 77]⟩,
  ⟨#[76, 69, 70, 84]⟩,
  ⟨#[76, 69, 78]⟩,
  ⟨#[76, 79, 79, 75, 85, 80]⟩,
  ⟨#[76, 79, 87, 69, 82]⟩,
  ⟨#[77, 65, 84, 67, 72]⟩,
  ⟨#[77, 65, 88]⟩,
  ⟨#[77, 69, 68, 73, 65, 78]⟩,
  ⟨#[77, 73, 68]⟩,
  ⟨#[77, 73, 78]⟩,
  ⟨#[77, 79, 68]⟩,
  ⟨#[78, 79, 84]⟩,
  ⟨#[78, 85, 77]⟩,
  ⟨#[79, 68, 68]⟩,
  ⟨#[79, 82]⟩,
  ⟨#[79, 82, 68]⟩,
  ⟨#[80, 79, 87, 69, 82]⟩,
  ⟨#[80, 82, 79, 68]⟩,
  ⟨#[81, 85, 79, 84]⟩,
  ⟨#[82, 69, 80, 84]⟩,
  ⟨#[82, 69, 86]⟩,
  ⟨#[82, 73, 71, 72, 84]⟩,
  ⟨#[82, 79, 85, 78, 68]⟩,
  ⟨#[82, 79, 87, 83]⟩,
  ⟨#[83, 73, 71, 78]⟩,
  ⟨#[83, 81, 82, 84]⟩,
  ⟨#[83, 85, 66, 83, 84]⟩,
  ⟨#[83, 85, 77]⟩,
  ⟨#[83, 85, 77, 73, 70]⟩,
  ⟨#[84, 82, 73, 77]⟩,
  ⟨#[84, 82, 85, 78, 67]⟩,
  ⟨#[84, 89, 80, 69]⟩,
  ⟨#[85, 80, 80, 69, 82]⟩,
  ⟨#[88, 79, 82]⟩]
def rowArr : Array Value := #[.string ⟨#[65, 66, 83]⟩, .string ⟨#[65, 78, 68]⟩, .string ⟨#[65, 83, 75]⟩, .string ⟨#[65, 86, 71]⟩, .string ⟨#[66, 76, 65, 78, 75, 83]⟩, .string ⟨#[67, 69, 73, 76]⟩, .string ⟨#[67, 72, 65, 82]⟩, .string ⟨#[67, 72, 79, 79, 83, 69]⟩, .string ⟨#[67, 76, 65, 77, 80]⟩, .string ⟨#[67, 79, 76, 83]⟩, .string ⟨#[67, 79, 78, 67, 65, 84]⟩, .string ⟨#[67, 79, 85, 78, 84]⟩, .string ⟨#[67, 79, 85, 78, 84, 65]⟩, .string ⟨#[67, 79, 85, 78, 84, 73, 70]⟩, .string ⟨#[69, 82, 82]⟩, .string ⟨#[69, 82, 82, 78, 79]⟩, .string ⟨#[69, 88, 65, 67, 84]⟩, .string ⟨#[70, 65, 67, 84]⟩, .string ⟨#[70, 73, 78, 68]⟩, .string ⟨#[70, 76, 79, 79, 82]⟩, .string ⟨#[71, 67, 68]⟩, .string ⟨#[73, 70]⟩, .string ⟨#[73, 70, 69, 82, 82]⟩, .string ⟨#[73, 78, 68, 69, 88]⟩, .string ⟨#[73, 78, 84]⟩, .string ⟨#[73, 83, 66, 76, 65, 78, 75]⟩, .string ⟨#[73, 83, 66, 79, 79, 76]⟩, .string ⟨#[73, 83, 69, 82, 82]⟩, .string ⟨#[73, 83, 78, 85, 77]⟩, .string ⟨#[73, 83, 84, 69, 88, 84]⟩, .string ⟨#[74, 79, 73, 78]⟩, .string ⟨#[76, 65, 82, 71, 69]⟩, .string ⟨#[76, 67, 77]⟩, .string ⟨#[76, 69, 70, 84]⟩, .string ⟨#[76, 69, 78]⟩, .string ⟨#[76, 79, 79, 75, 85, 80]⟩, .string ⟨#[76, 79, 87, 69, 82]⟩, .string ⟨#[77, 65, 84, 67, 72]⟩, .string ⟨#[77, 65, 88]⟩, .string ⟨#[77, 69, 68, 73, 65, 78]⟩, .string ⟨#[77, 73, 68]⟩, .string ⟨#[77, 73, 78]⟩, .string ⟨#[77, 79, 68]⟩, .string ⟨#[78, 79, 84]⟩, .string ⟨#[78, 85, 77]⟩, .string ⟨#[79, 68, 68]⟩, .string ⟨#[79, 82]⟩, .string ⟨#[79, 82, 68]⟩, .string ⟨#[80, 79, 87, 69, 82]⟩, .string ⟨#[80, 82, 79, 68]⟩, .string ⟨#[81, 85, 79, 84]⟩, .string ⟨#[82, 69, 80, 84]⟩, .string ⟨#[82, 69, 86]⟩, .string ⟨#[82, 73, 71, 72, 84]⟩, .string ⟨#[82, 79, 85, 78, 68]⟩, .string ⟨#[82, 79, 87, 83]⟩, .string ⟨#[83, 73, 71, 78]⟩, .string ⟨#[83, 81, 82, 84]⟩, .string ⟨#[83, 85, 66, 83, 84]⟩, .string ⟨#[83, 85, 77]⟩, .string ⟨#[83, 85, 77, 73, 70]⟩, .string ⟨#[84, 82, 73, 77]⟩, .string ⟨#[84, 82, 85, 78, 67]⟩, .string ⟨#[84, 89, 80, 69]⟩, .string ⟨#[85, 80, 80, 69, 82]⟩, .string ⟨#[88, 79, 82]⟩]
def ownNames : List ByteArray := [⟨#[73, 70]⟩, ⟨#[65, 78, 68]⟩, ⟨#[79, 82]⟩, ⟨#[88, 79, 82]⟩, ⟨#[78, 79, 84]⟩, ⟨#[73, 70, 69, 82, 82]⟩, ⟨#[73, 83, 69, 82, 82]⟩, ⟨#[73, 83, 66, 76, 65, 78, 75]⟩, ⟨#[73, 83, 78, 85, 77]⟩, ⟨#[73, 83, 84, 69, 88, 84]⟩, ⟨#[73, 83, 66, 79, 79, 76]⟩, ⟨#[84, 89, 80, 69]⟩, ⟨#[69, 82, 82, 78, 79]⟩, ⟨#[69, 82, 82]⟩, ⟨#[67, 72, 79, 79, 83, 69]⟩, ⟨#[65, 83, 75]⟩]
theorem rowArr_eq : rowArr = (names66.map Value.string).toArray := by kernel_rfl
theorem names_nodup : names66.Nodup := by decide +kernel
theorem names_perm : (ownNames ++ namesL).Perm names66 := by decide +kernel
theorem names_size : ∀ s ∈ names66, s.size ≤ 100 := by decide +kernel
def hasName (l : List ByteArray) (s : ByteArray) : Bool := l.any fun n => decide (n = s)
theorem hasName_iff (l : List ByteArray) (s : ByteArray) : hasName l s = true ↔ s ∈ l := by
  unfold hasName
  rw [List.any_eq_true]
  constructor
  · rintro ⟨x, hx, e⟩
    have := of_decide_eq_true e
    subst this
    exact hx
  · intro h
    exact ⟨s, h, by simp⟩
theorem ite_true' {p : Prop} [Decidable p] {b : Bool} (h : (if p then true else b) = true) : p ∨ b = true := by
  by_cases hp : p
  · exact .inl hp
  · rw [if_neg hp] at h; exact .inr h
theorem own_mem (s : ByteArray) : isOwn s = true ↔ s ∈ ownNames := by
  constructor
  · intro h
    unfold isOwn at h
    iterate 16
      rcases ite_true' h with e | h
      · subst e; exact (hasName_iff _ _).1 (by decide +kernel)
    cases h
  · intro h
    simp only [ownNames, List.mem_cons, List.not_mem_nil, or_false] at h
    rcases h with rfl | rfl | rfl | rfl | rfl | rfl | rfl | rfl | rfl | rfl | rfl | rfl | rfl | rfl | rfl | rfl <;> decide +kernel
theorem first_mem (s : ByteArray) : inFirst 50 s = true ↔ s ∈ namesL := by
  unfold inFirst
  rw [List.take_of_length_le (by decide), List.any_eq_true]
  constructor
  · rintro ⟨x, hx, e⟩
    have := of_decide_eq_true e
    subst this
    exact hx
  · intro h
    exact ⟨s, h, by simp⟩
theorem d1_mem (s : ByteArray) : D1 50 s = true ↔ s ∈ names66 := by
  rw [← names_perm.mem_iff, List.mem_append, ← own_mem, ← first_mem]
  unfold D1
  rw [Bool.or_eq_true]
theorem d1_contains (s : ByteArray) : D1 50 s = hasName names66 s := by
  rw [Bool.eq_iff_iff, d1_mem, hasName_iff]
theorem getU_mem (s : ByteArray) (L : List (ByteArray × Value)) : (getU s L).isSome = true ↔ s ∈ L.map (·.1) := by
  induction L with
  | nil => simp [getU, findU]
  | cons p L ih =>
    by_cases h : p.1 = s
    · simp [getU, findU, h]
    · have e : getU s (p :: L) = getU s L := by simp [getU, findU, h, Function.comp_def]
      rw [e, ih]
      have h' : ¬ s = p.1 := fun e => h e.symm
      simp [h']
theorem keys_perm {L : List (ByteArray × Value)} (hn : (L.map (·.1)).Nodup) (hd : ∀ s, (getU s L).isSome = D1 50 s) : (L.map (·.1)).Perm names66 :=
  (List.perm_ext_iff_of_nodup hn names_nodup).2 fun s => by rw [← getU_mem, hd s, d1_mem]

theorem ents_born (L : List (ByteArray × Value)) : ∀ i, (ents L i).map (·.born) = (List.range L.length).map (i + ·) := by
  induction L with
  | nil => intro i; rfl
  | cons p L ih => intro i; rw [ents, List.map_cons, ih, List.length_cons, List.range_succ_eq_map]; simp [Function.comp_def]; omega
theorem ents_keys (L : List (ByteArray × Value)) : ∀ i, (ents L i).map (·.key) = L.map fun p => Value.string p.1 := by
  induction L with
  | nil => intro i; rfl
  | cons p L ih => intro i; rw [ents, List.map_cons, ih]; rfl
theorem ents_mem {L : List (ByteArray × Value)} {x : MapEntry} : ∀ i, x ∈ ents L i → ∃ p ∈ L, x.key = .string p.1 ∧ x.val = p.2 ∧ i ≤ x.born ∧ x.born < i + L.length := by
  induction L with
  | nil => intro i h; cases h
  | cons p L ih =>
    intro i h
    rw [ents, List.mem_cons] at h
    rcases h with rfl | h
    · exact ⟨p, List.mem_cons_self .., rfl, rfl, Nat.le_refl _, by simp⟩
    · obtain ⟨q, hq, h1, h2, h3, h4⟩ := ih (i + 1) h
      exact ⟨q, List.mem_cons_of_mem _ hq, h1, h2, by omega, by simp; omega⟩
theorem ents_rg (k : TypeId) (hk : Tryz.prog.underlying k = some .string) (L : List (ByteArray × Value)) (hs : ∀ p ∈ L, p.1.size ≤ maxLen) : ∀ i, (ents L i).map (fun x => strOf (rg Tryz.prog k rdv x).1) = L.map fun p => p.1.data.toList := by
  induction L with
  | nil => intro i; rfl
  | cons p L ih =>
    intro i
    rw [ents, List.map_cons, List.map_cons, ih (fun q hq => hs q (List.mem_cons_of_mem _ hq))]
    congr 1
    have h1 := Go.WideMaps.keyOf_string_mk (P := Tryz.prog) hk (hs p (List.mem_cons_self ..))
    simp [rg, rd, h1, rdv, strOf]

/-- The index, as the library's word has it. -/
theorem MapInv.owns {w : World} {m : Nat} (h : MapInv w m) : ∃ (n : Nat) (D : DataW Value), w.ownsMap Tryz.prog 9 rdv m n D ∧ (strKeys D).Perm (names66.map fun s => s.data.toList) ∧ Maps.size D ≤ 66 := by
  obtain ⟨L, h3, h4, h5, h6⟩ := h
  have hp := keys_perm h6 h5
  have hlen : L.length = 66 := by
    have := hp.length_eq
    rw [List.length_map] at this
    exact this
  have hsz : ∀ p ∈ L, p.1.size ≤ maxLen := fun p hp' => by
    have := names_size p.1 (hp.mem_iff.1 (List.mem_map.2 ⟨p, hp', rfl⟩))
    simp only [maxLen]
    omega
  have hF : Fit Tryz.prog 9 rdv (ents L 0).toArray L.length := by
    refine ⟨by simp [len_ents, hlen, maxLen], ⟨fun x hx => ?_, ?_, ?_⟩, fun x hx => ?_⟩
    · obtain ⟨p, _, _, _, _, hb⟩ := ents_mem 0 (by simpa using hx)
      omega
    · simp only [List.toList_toArray, ents_born]
      simpa using List.nodup_range
    · simp only [List.toList_toArray, ents_keys]
      have e : (L.map fun p => Value.string p.1) = (L.map (·.1)).map Value.string := by rw [List.map_map]; rfl
      rw [e]
      exact List.Pairwise.map Value.string (fun a b hab e => hab (by injection e)) h6
    · obtain ⟨p, hpm, hk, _, _, _⟩ := ents_mem 0 (by simpa using hx)
      have h1 := Go.WideMaps.keyOf_string_mk (P := Tryz.prog) (k := 9) Tryz.underlying9 (hsz p hpm)
      exact ⟨_, by simp [rd, hk, h1, rdv]; rfl⟩
  refine ⟨L.length, _, ⟨_, _, h3, hF, by simp [len_ents], rfl⟩, ?_, ?_⟩
  · have h1 := (WideShapes.sorted_perm ((ents L 0).toArray.toList.map (rg Tryz.prog 9 rdv))).map (fun p => strOf p.1)
    rw [List.map_map] at h1
    have h2 := ents_rg 9 Tryz.underlying9 L hsz 0
    have e : (strKeys (DataW.map ((List.map (rg Tryz.prog 9 rdv) (ents L 0).toArray.toList).foldr DataW.insert []))) = ((List.map (rg Tryz.prog 9 rdv) (ents L 0).toArray.toList).foldr DataW.insert []).map (fun p => strOf p.1) := rfl
    rw [e]
    refine h1.trans ?_
    have e2 : List.map ((fun p => strOf p.1) ∘ rg Tryz.prog 9 rdv) (ents L 0).toArray.toList = (L.map (·.1)).map fun s => s.data.toList := by
      rw [List.map_map]
      exact h2
    rw [e2]
    exact hp.map _
  · have h1 := (WideShapes.sorted_perm ((ents L 0).toArray.toList.map (rg Tryz.prog 9 rdv))).length_eq
    show ((List.map (rg Tryz.prog 9 rdv) (ents L 0).toArray.toList).foldr DataW.insert []).length ≤ 66
    rw [h1]
    simp [len_ents, hlen]
theorem names_sorted : (names66.map fun s => s.data.toList).mergeSort (fun x y => decide (x ≤ y)) = names66.map fun s => s.data.toList :=
  List.mergeSort_of_pairwise (by decide +kernel)
theorem sorted_of_perm {ss : List (List UInt8)} (h : ss.Perm (names66.map fun s => s.data.toList)) : (ss.mergeSort (fun x y => decide (x ≤ y))).map encStr = names66.map Value.string := by
  have h1 := mergeSort_of_perm h
  have h2 : ss.mergeSort (fun x y => decide (x ≤ y)) = names66.map fun s => s.data.toList := h1.trans names_sorted
  rw [h2, List.map_map]
  refine List.map_congr_left fun s _ => ?_
  simp [encStr]
end Go.Proofs.YtpcihefhagipmaaGreatDoor
