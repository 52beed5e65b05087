/-
  Parts of a proof: NumsDo.
-/
import Derived.Test.YtegbhdeaicgpkaaGreatDoorJ26
import Derived.Test.YtegbhdeaicgpkaaGreatDoorJ06
import Derived.Test.YtegbhdeaicgpkaaGreatDoorJ09
set_option linter.all false
namespace Go.Proofs.YtegbhdeaicgpkaaGreatDoor
open Go Go.RowKit
theorem nums_sqrt (x : Int) (hx : Is64 x) (g c : Nat) (w : World) (h0 : w.cell? ⟨g, 0, none⟩ = some (.int .i64 x)) : Calls Tryz.prog 71 #[.slice (some ⟨g, 0, none⟩) 1 c] w fun e w' => e = .returned (Value.agg #[Value.int .i64 (numC (sqrtX x)).tag, Value.int .i64 (numC (sqrtX x)).num, Value.string (numC (sqrtX x)).str, Value.bool (numC (sqrtX x)).is, Value.int .i64 (numC (sqrtX x)).code]) ∧ Below w.heap.size w w' := by
  have hl : g < w.heap.size := World.block_lt_of_cell? w _ h0
  have HX := Lib.hid hx
  clear hx
  go_enter Tryz.func71, Tryz.ntmps71
  go_wp2_with (first | (go_at_call 72; refine (dec_Sqrt _ HX.out _).mono ?_; rintro e w1 ⟨rfl, hb⟩; obtain ⟨l1, n1, rfl⟩ := more_of_below hb; clear hb) | (go_at_call 59; refine (nums_told _ _ _).mono ?_; rintro e w1 ⟨rfl, hb⟩; obtain ⟨l, n, rfl⟩ := more_of_below hb; clear hb))
  all_goals go_returns
  all_goals exact ⟨rfl, (by (with_reducible repeat' (first | exact .refl _ _ | assumption | refine bmP ?_ ?_ | refine baP ?_ _ ?_ | refine .drew ?_ | refine .setCell ?_ ?_ _ | refine bdP ?_ _)) <;> go_size)⟩
def numDo (s : ByteArray) (l : List Int) : V :=
  if (⟨#[79, 68, 68]⟩ : ByteArray) = s then oddX (l.getD 0 0) else
  if (⟨#[67, 76, 65, 77, 80]⟩ : ByteArray) = s then clampX (l.getD 0 0) (l.getD 1 0) (l.getD 2 0) else
  if (⟨#[70, 65, 67, 84]⟩ : ByteArray) = s then factX (l.getD 0 0) else
  if (⟨#[76, 67, 77]⟩ : ByteArray) = s then lcmX l else
  if (⟨#[71, 67, 68]⟩ : ByteArray) = s then gcdX l else
  if (⟨#[83, 81, 82, 84]⟩ : ByteArray) = s then numC (sqrtX (l.getD 0 0)) else
  if (⟨#[80, 79, 87, 69, 82]⟩ : ByteArray) = s then placesX powX (l.getD 0 0) (l.getD 1 0) else
  if (⟨#[81, 85, 79, 84]⟩ : ByteArray) = s then quotX (l.getD 0 0) (l.getD 1 0) else
  if (⟨#[77, 79, 68]⟩ : ByteArray) = s then numC (modX (l.getD 0 0) (l.getD 1 0)) else
  if (⟨#[67, 69, 73, 76]⟩ : ByteArray) = s then numC (ceilX (l.getD 0 0) (l.getD 1 0)) else
  if (⟨#[70, 76, 79, 79, 82]⟩ : ByteArray) = s then numC (floor2X (l.getD 0 0) (l.getD 1 0)) else
  if (⟨#[82, 79, 85, 78, 68]⟩ : ByteArray) = s then (if l.length = 2 then placesX roundX (l.getD 0 0) (l.getD 1 0) else numC (roundX (l.getD 0 0) 0)) else
  if (⟨#[84, 82, 85, 78, 67]⟩ : ByteArray) = s then (if l.length = 2 then placesX truncP (l.getD 0 0) (l.getD 1 0) else numC (truncP (l.getD 0 0) 0)) else
  if (⟨#[73, 78, 84]⟩ : ByteArray) = s then numC (floorX (l.getD 0 0)) else
  if (⟨#[83, 73, 71, 78]⟩ : ByteArray) = s then signV (l.getD 0 0) else
  if (⟨#[65, 66, 83]⟩ : ByteArray) = s then numG (max (l.getD 0 0) (-(l.getD 0 0))) else errG 8
def DoesN (w : World) (fn : Fn) (first cap : Array Value) (l : List Int) (r : V) : Prop :=
  (∃ k, fn = .func k ∧ first = #[] ∧ cap = #[] ∧ (∀ (args : Array Value) (w : World), Sem.run Tryz.prog (callFunc k args) w = .ok (.enter k args) w) ∧ ∀ W g c, Below w.heap.size w W → AtB W g (I l) → g < W.heap.size → Calls Tryz.prog k #[.slice (some ⟨g, 0, none⟩) l.length c] W fun e w' => e = .returned (Value.agg #[Value.int .i64 r.tag, Value.int .i64 r.num, Value.string r.str, Value.bool r.is, Value.int .i64 r.code]) ∧ Below W.heap.size W w') ∨
  (∃ k p, fn = .func k ∧ first = #[] ∧ cap = #[.pointer (some ⟨p, 0, none⟩)] ∧ (∀ (args : Array Value) (w : World), Sem.run Tryz.prog (callFunc k args) w = .ok (.enter k args) w) ∧ ∀ W g c, Below w.heap.size w W → AtB W g (I l) → g < W.heap.size → Calls Tryz.prog k #[.slice (some ⟨g, 0, none⟩) l.length c, .pointer (some ⟨p, 0, none⟩)] W fun e w' => e = .returned (Value.agg #[Value.int .i64 r.tag, Value.int .i64 r.num, Value.string r.str, Value.bool r.is, Value.int .i64 r.code]) ∧ Below W.heap.size W w')
theorem cellB_below {w W : World} {p i : Nat} {v : Value} (h : w.cell? ⟨p, i, none⟩ = some v) (hB : Below w.heap.size w W) : W.cell? ⟨p, i, none⟩ = some v := cell_below h hB
set_option maxRecDepth 100000 in
theorem num_do {w : World} {s : ByteArray} {x y : Int} {fn : Fn} {first cap : Array Value} {p1 p2 p3 : Nat} (ht : numTab s = some (x, y)) (hf : numFn p1 p2 p3 s = some (.func fn first cap))
    (hk1 : w.cell? ⟨p1, 0, none⟩ = some (.func (.func 62) #[] #[])) (hk2 : w.cell? ⟨p2, 0, none⟩ = some (.func (.func 63) #[] #[])) (hk3 : w.cell? ⟨p3, 0, none⟩ = some (.func (.func 70) #[] #[]))
    (l : List Int) (hb : between x y l.length = true) (h63 : ∀ a ∈ l, In63 a) : DoesN w fn first cap l (numDo s l) := by
  unfold numTab at ht
  unfold numFn at hf
  unfold numDo
  simp only [between, Bool.and_eq_true, decide_eq_true_eq] at hb
  by_cases eODD : (⟨#[79, 68, 68]⟩ : ByteArray) = s
  · rw [if_pos eODD] at ht hf ⊢
    cases ht
    cases hf
    have hl : l.length = 1 := by omega
    match l, hl with
    | [a0], _ =>
      have h0 := h63 a0 (by simp)
      refine .inl ⟨_, rfl, rfl, rfl, fun _ _ => rfl, fun w g c hB hA hg => ?_⟩
      have q0 := hA 0 _ rfl
      exact nums_odd a0 h0.to64 g c w q0
  rw [if_neg eODD] at ht hf ⊢
  by_cases eCLAMP : (⟨#[67, 76, 65, 77, 80]⟩ : ByteArray) = s
  · rw [if_pos eCLAMP] at ht hf ⊢
    cases ht
    cases hf
    have hl : l.length = 3 := by omega
    match l, hl with
    | [a0, a1, a2], _ =>
      have h0 := h63 a0 (by simp)
      have h1 := h63 a1 (by simp)
      refine .inl ⟨_, rfl, rfl, rfl, fun _ _ => rfl, fun w g c hB hA hg => ?_⟩
      have q0 := hA 0 _ rfl
      have q1 := hA 1 _ rfl
      have q2 := hA 2 _ rfl
      exact nums_clamp a0 a1 a2 g c w q0 q1 q2
  rw [if_neg eCLAMP] at ht hf ⊢
  by_cases eFACT : (⟨#[70, 65, 67, 84]⟩ : ByteArray) = s
  · rw [if_pos eFACT] at ht hf ⊢
    cases ht
    cases hf
    have hl : l.length = 1 := by omega
    match l, hl with
    | [a0], _ =>
      have h0 := h63 a0 (by simp)
      refine .inl ⟨_, rfl, rfl, rfl, fun _ _ => rfl, fun w g c hB hA hg => ?_⟩
      have q0 := hA 0 _ rfl
      exact nums_fact a0 h0.to64 g c w q0
  rw [if_neg eFACT] at ht hf ⊢
  by_cases eLCM : (⟨#[76, 67, 77]⟩ : ByteArray) = s
  · rw [if_pos eLCM] at ht hf ⊢
    cases ht
    cases hf
    refine .inl ⟨_, rfl, rfl, rfl, fun _ _ => rfl, fun w g c hB hA hg => ?_⟩
    exact nums_lcmOf l h63 (by omega) g c w hA hg
  rw [if_neg eLCM] at ht hf ⊢
  by_cases eGCD : (⟨#[71, 67, 68]⟩ : ByteArray) = s
  · rw [if_pos eGCD] at ht hf ⊢
    cases ht
    cases hf
    refine .inl ⟨_, rfl, rfl, rfl, fun _ _ => rfl, fun w g c hB hA hg => ?_⟩
    exact nums_gcdOf l h63 (by omega) g c w hA hg
  rw [if_neg eGCD] at ht hf ⊢
  by_cases eSQRT : (⟨#[83, 81, 82, 84]⟩ : ByteArray) = s
  · rw [if_pos eSQRT] at ht hf ⊢
    cases ht
    cases hf
    have hl : l.length = 1 := by omega
    match l, hl with
    | [a0], _ =>
      have h0 := h63 a0 (by simp)
      refine .inl ⟨_, rfl, rfl, rfl, fun _ _ => rfl, fun w g c hB hA hg => ?_⟩
      have q0 := hA 0 _ rfl
      exact nums_sqrt a0 h0.to64 g c w q0
  rw [if_neg eSQRT] at ht hf ⊢
  by_cases ePOWER : (⟨#[80, 79, 87, 69, 82]⟩ : ByteArray) = s
  · rw [if_pos ePOWER] at ht hf ⊢
    cases ht
    cases hf
    have hl : l.length = 2 := by omega
    match l, hl with
    | [a0, a1], _ =>
      have h0 := h63 a0 (by simp)
      have h1 := h63 a1 (by simp)
      refine .inr ⟨_, _, rfl, rfl, rfl, fun _ _ => rfl, fun w g c hB hA hg => ?_⟩
      have q0 := hA 0 _ rfl
      have q1 := hA 1 _ rfl
      exact places_power2 a0 a1 h0 h1.to64 p3 g c w (cellB_below hk3 hB) q0 q1
  rw [if_neg ePOWER] at ht hf ⊢
  by_cases eQUOT : (⟨#[81, 85, 79, 84]⟩ : ByteArray) = s
  · rw [if_pos eQUOT] at ht hf ⊢
    cases ht
    cases hf
    have hl : l.length = 2 := by omega
    match l, hl with
    | [a0, a1], _ =>
      have h0 := h63 a0 (by simp)
      have h1 := h63 a1 (by simp)
      refine .inl ⟨_, rfl, rfl, rfl, fun _ _ => rfl, fun w g c hB hA hg => ?_⟩
      have q0 := hA 0 _ rfl
      have q1 := hA 1 _ rfl
      exact nums_quot a0 a1 h0 h1 g c w q0 q1
  rw [if_neg eQUOT] at ht hf ⊢
  by_cases eMOD : (⟨#[77, 79, 68]⟩ : ByteArray) = s
  · rw [if_pos eMOD] at ht hf ⊢
    cases ht
    cases hf
    have hl : l.length = 2 := by omega
    match l, hl with
    | [a0, a1], _ =>
      have h0 := h63 a0 (by simp)
      have h1 := h63 a1 (by simp)
      refine .inl ⟨_, rfl, rfl, rfl, fun _ _ => rfl, fun w g c hB hA hg => ?_⟩
      have q0 := hA 0 _ rfl
      have q1 := hA 1 _ rfl
      exact nums_mod a0 a1 h0.to64 h1.to64 g c w q0 q1
  rw [if_neg eMOD] at ht hf ⊢
  by_cases eCEIL : (⟨#[67, 69, 73, 76]⟩ : ByteArray) = s
  · rw [if_pos eCEIL] at ht hf ⊢
    cases ht
    cases hf
    have hl : l.length = 2 := by omega
    match l, hl with
    | [a0, a1], _ =>
      have h0 := h63 a0 (by simp)
      have h1 := h63 a1 (by simp)
      refine .inl ⟨_, rfl, rfl, rfl, fun _ _ => rfl, fun w g c hB hA hg => ?_⟩
      have q0 := hA 0 _ rfl
      have q1 := hA 1 _ rfl
      exact nums_ceil a0 a1 h0 h1.to64 g c w q0 q1
  rw [if_neg eCEIL] at ht hf ⊢
  by_cases eFLOOR : (⟨#[70, 76, 79, 79, 82]⟩ : ByteArray) = s
  · rw [if_pos eFLOOR] at ht hf ⊢
    cases ht
    cases hf
    have hl : l.length = 2 := by omega
    match l, hl with
    | [a0, a1], _ =>
      have h0 := h63 a0 (by simp)
      have h1 := h63 a1 (by simp)
      refine .inl ⟨_, rfl, rfl, rfl, fun _ _ => rfl, fun w g c hB hA hg => ?_⟩
      have q0 := hA 0 _ rfl
      have q1 := hA 1 _ rfl
      exact nums_floorF a0 a1 h0.to64 h1.to64 g c w q0 q1
  rw [if_neg eFLOOR] at ht hf ⊢
  by_cases eROUND : (⟨#[82, 79, 85, 78, 68]⟩ : ByteArray) = s
  · rw [if_pos eROUND] at ht hf ⊢
    cases ht
    cases hf
    have hl : l.length = 1 ∨ l.length = 2 := by omega
    rcases hl with hl | hl
    · match l, hl with
      | [a0], _ =>
        have h0 := h63 a0 (by simp)
        refine .inr ⟨_, _, rfl, rfl, rfl, fun _ _ => rfl, fun w g c hB hA hg => ?_⟩
        have q0 := hA 0 _ rfl
        exact places_round1 a0 h0 p2 g c w (cellB_below hk2 hB) q0
    · match l, hl with
      | [a0, a1], _ =>
        have h0 := h63 a0 (by simp)
        have h1 := h63 a1 (by simp)
        refine .inr ⟨_, _, rfl, rfl, rfl, fun _ _ => rfl, fun w g c hB hA hg => ?_⟩
        have q0 := hA 0 _ rfl
        have q1 := hA 1 _ rfl
        exact places_round2 a0 a1 h0 h1.to64 p2 g c w (cellB_below hk2 hB) q0 q1
  rw [if_neg eROUND] at ht hf ⊢
  by_cases eTRUNC : (⟨#[84, 82, 85, 78, 67]⟩ : ByteArray) = s
  · rw [if_pos eTRUNC] at ht hf ⊢
    cases ht
    cases hf
    have hl : l.length = 1 ∨ l.length = 2 := by omega
    rcases hl with hl | hl
    · match l, hl with
      | [a0], _ =>
        have h0 := h63 a0 (by simp)
        refine .inr ⟨_, _, rfl, rfl, rfl, fun _ _ => rfl, fun w g c hB hA hg => ?_⟩
        have q0 := hA 0 _ rfl
        exact places_trunc1 a0 h0 p1 g c w (cellB_below hk1 hB) q0
    · match l, hl with
      | [a0, a1], _ =>
        have h0 := h63 a0 (by simp)
        have h1 := h63 a1 (by simp)
        refine .inr ⟨_, _, rfl, rfl, rfl, fun _ _ => rfl, fun w g c hB hA hg => ?_⟩
        have q0 := hA 0 _ rfl
        have q1 := hA 1 _ rfl
        exact places_trunc2 a0 a1 h0 h1.to64 p1 g c w (cellB_below hk1 hB) q0 q1
  rw [if_neg eTRUNC] at ht hf ⊢
  by_cases eINT : (⟨#[73, 78, 84]⟩ : ByteArray) = s
  · rw [if_pos eINT] at ht hf ⊢
    cases ht
    cases hf
    have hl : l.length = 1 := by omega
    match l, hl with
    | [a0], _ =>
      have h0 := h63 a0 (by simp)
      refine .inl ⟨_, rfl, rfl, rfl, fun _ _ => rfl, fun w g c hB hA hg => ?_⟩
      have q0 := hA 0 _ rfl
      exact nums_int a0 h0.to64 g c w q0
  rw [if_neg eINT] at ht hf ⊢
  by_cases eSIGN : (⟨#[83, 73, 71, 78]⟩ : ByteArray) = s
  · rw [if_pos eSIGN] at ht hf ⊢
    cases ht
    cases hf
    have hl : l.length = 1 := by omega
    match l, hl with
    | [a0], _ =>
      have h0 := h63 a0 (by simp)
      refine .inl ⟨_, rfl, rfl, rfl, fun _ _ => rfl, fun w g c hB hA hg => ?_⟩
      have q0 := hA 0 _ rfl
      exact nums_sign a0 g c w q0
  rw [if_neg eSIGN] at ht hf ⊢
  by_cases eABS : (⟨#[65, 66, 83]⟩ : ByteArray) = s
  · rw [if_pos eABS] at ht hf ⊢
    cases ht
    cases hf
    have hl : l.length = 1 := by omega
    match l, hl with
    | [a0], _ =>
      have h0 := h63 a0 (by simp)
      refine .inl ⟨_, rfl, rfl, rfl, fun _ _ => rfl, fun w g c hB hA hg => ?_⟩
      have q0 := hA 0 _ rfl
      exact nums_abs a0 h0 g c w q0
  rw [if_neg eABS] at ht hf ⊢
  cases ht
end Go.Proofs.YtegbhdeaicgpkaaGreatDoor
