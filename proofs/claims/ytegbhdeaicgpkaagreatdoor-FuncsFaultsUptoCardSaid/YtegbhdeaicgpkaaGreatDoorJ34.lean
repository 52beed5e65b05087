/-
  Parts of a proof: TextsDo.
-/
import Derived.Test.YtegbhdeaicgpkaaGreatDoorJ32
import Derived.Test.YtegbhdeaicgpkaaGreatDoorJ33
import Derived.Test.YtegbhdeaicgpkaaGreatDoorJ09
import Derived.Test.YtegbhdeaicgpkaaGreatDoorJ08
set_option linter.all false
namespace Go.Proofs.YtegbhdeaicgpkaaGreatDoor
open Go Go.RowKit
def textDo (s : ByteArray) (text : Nat) (ss : List ByteArray) (ns : List Int) : V :=
  if (⟨#[78, 85, 77]⟩ : ByteArray) = s then numTX (ss.getD 0 ⟨#[]⟩) else
  if (⟨#[82, 69, 86]⟩ : ByteArray) = s then toldX text (revX (ss.getD 0 ⟨#[]⟩)) else
  if (⟨#[69, 88, 65, 67, 84]⟩ : ByteArray) = s then exactX (ss.getD 0 ⟨#[]⟩) (ss.getD 1 ⟨#[]⟩) else
  if (⟨#[67, 72, 65, 82]⟩ : ByteArray) = s then charX text (ns.getD 0 0) else
  if (⟨#[79, 82, 68]⟩ : ByteArray) = s then ordX (ss.getD 0 ⟨#[]⟩) else
  if (⟨#[67, 79, 78, 67, 65, 84]⟩ : ByteArray) = s then concatGo text ss [] else
  if (⟨#[83, 85, 66, 83, 84]⟩ : ByteArray) = s then substX text (ss.getD 0 ⟨#[]⟩) (ss.getD 1 ⟨#[]⟩) (ss.getD 2 ⟨#[]⟩) else
  if (⟨#[70, 73, 78, 68]⟩ : ByteArray) = s then placeX (ss.getD 0 ⟨#[]⟩) (ss.getD 1 ⟨#[]⟩) (ns.getD 0 1) else
  if (⟨#[82, 69, 80, 84]⟩ : ByteArray) = s then reptX text (ss.getD 0 ⟨#[]⟩) (ns.getD 0 0) else
  if (⟨#[84, 82, 73, 77]⟩ : ByteArray) = s then toldX text (trimX (ss.getD 0 ⟨#[]⟩)) else
  if (⟨#[76, 79, 87, 69, 82]⟩ : ByteArray) = s then toldX text (eachX 65 97 (ss.getD 0 ⟨#[]⟩)) else
  if (⟨#[85, 80, 80, 69, 82]⟩ : ByteArray) = s then toldX text (eachX 97 65 (ss.getD 0 ⟨#[]⟩)) else
  if (⟨#[77, 73, 68]⟩ : ByteArray) = s then midX text (ss.getD 0 ⟨#[]⟩) (ns.getD 0 0) (ns.getD 1 0) else
  if (⟨#[82, 73, 71, 72, 84]⟩ : ByteArray) = s then rightX text (ss.getD 0 ⟨#[]⟩) (ns.getD 0 1) else
  if (⟨#[76, 69, 70, 84]⟩ : ByteArray) = s then leftX text (ss.getD 0 ⟨#[]⟩) (ns.getD 0 1) else
  if (⟨#[76, 69, 78]⟩ : ByteArray) = s then wholeT (ss.getD 0 ⟨#[]⟩).size else
  errG 8
def cntK (c : ByteArray) (n : Nat) (isS : Bool) : Nat := ((c.data.toList.take n).filter fun b => (b == 115) == isS).length
def StrRow (W : World) (v : Value) (ss : List ByteArray) : Prop := ∃ A c, v = .slice A ss.length c ∧ (0 < ss.length → ∃ g, A = some ⟨g, 0, none⟩ ∧ g < W.heap.size ∧ ∀ j s, ss[j]? = some s → W.cell? ⟨g, j, none⟩ = some (.string s))
def IntRow (W : World) (v : Value) (ns : List Int) : Prop := ∃ A c, v = .slice A ns.length c ∧ (0 < ns.length → ∃ g, A = some ⟨g, 0, none⟩ ∧ g < W.heap.size ∧ ∀ j n, ns[j]? = some n → W.cell? ⟨g, j, none⟩ = some (.int .i64 n))
theorem StrRow.below {W W' : World} {v : Value} {ss : List ByteArray} (h : StrRow W v ss) (hb : Below W.heap.size W W') : StrRow W' v ss := by
  obtain ⟨A, c, rfl, hc⟩ := h
  refine ⟨A, c, rfl, fun h0 => ?_⟩
  obtain ⟨g, rfl, hg, hx⟩ := hc h0
  exact ⟨g, rfl, Nat.lt_of_lt_of_le hg hb.size, fun j s hj => (hb.cell (p := ⟨g, j, none⟩) hg).trans (hx j s hj)⟩
theorem IntRow.below {W W' : World} {v : Value} {ns : List Int} (h : IntRow W v ns) (hb : Below W.heap.size W W') : IntRow W' v ns := by
  obtain ⟨A, c, rfl, hc⟩ := h
  refine ⟨A, c, rfl, fun h0 => ?_⟩
  obtain ⟨g, rfl, hg, hx⟩ := hc h0
  exact ⟨g, rfl, Nat.lt_of_lt_of_le hg hb.size, fun j s hj => (hb.cell (p := ⟨g, j, none⟩) hg).trans (hx j s hj)⟩
def DoesT (w : World) (fn : Fn) (first cap : Array Value) (text : Nat) (ss : List ByteArray) (ns : List Int) (r : V) : Prop :=
  (∃ k, fn = .func k ∧ first = #[] ∧ cap = #[] ∧ (∀ (args : Array Value) (w : World), Sem.run Tryz.prog (callFunc k args) w = .ok (.enter k args) w) ∧
    ∀ W sv nv, Below w.heap.size w W → MaxL W → StrRow W sv ss → IntRow W nv ns → Calls Tryz.prog k #[.agg #[sv, nv, .int .i64 text]] W fun e w' => e = .returned (Value.agg #[Value.int .i64 r.tag, Value.int .i64 r.num, Value.string r.str, Value.bool r.is, Value.int .i64 r.code]) ∧ Below W.heap.size W w') ∨
  (∃ k p, fn = .func k ∧ first = #[] ∧ cap = #[.pointer (some ⟨p, 0, none⟩)] ∧ (∀ (args : Array Value) (w : World), Sem.run Tryz.prog (callFunc k args) w = .ok (.enter k args) w) ∧
    ∀ W sv nv, Below w.heap.size w W → MaxL W → StrRow W sv ss → IntRow W nv ns → Calls Tryz.prog k #[.agg #[sv, nv, .int .i64 text], .pointer (some ⟨p, 0, none⟩)] W fun e w' => e = .returned (Value.agg #[Value.int .i64 r.tag, Value.int .i64 r.num, Value.string r.str, Value.bool r.is, Value.int .i64 r.code]) ∧ Below W.heap.size W w')
theorem cntK_all (c : ByteArray) (n : Nat) : cntK c n true ≤ n := by
  unfold cntK
  exact Nat.le_trans (List.length_filter_le _ _) (by rw [List.length_take]; omega)
set_option maxRecDepth 100000 in
set_option maxHeartbeats 4000000 in
theorem text_do {w : World} {s c : ByteArray} {x : Int} {fn : Fn} {first cap : Array Value} {p q : Nat} (ht : textTab s = some (c, x)) (hf : textFn p q s = some (.func fn first cap)) (hk : TextCells p q w)
    (text : Nat) (htx : text ≤ 1024) (ss : List ByteArray) (ns : List Int) (n : Nat) (hb : between x c.size n = true) (hss : ss.length = cntK c n true) (hns : ns.length = cntK c n false) (hsz : ∀ t ∈ ss, t.size ≤ 1048576) (h64 : ∀ a ∈ ns, Is64 a) : DoesT w fn first cap text ss ns (textDo s text ss ns) := by
  obtain ⟨hk1, hk2, hk3, hk4⟩ := hk
  unfold textTab at ht
  unfold textFn at hf
  unfold textDo
  simp only [between, Bool.and_eq_true, decide_eq_true_eq] at hb
  by_cases eNUM : (⟨#[78, 85, 77]⟩ : ByteArray) = s
  · rw [if_pos eNUM] at ht hf ⊢
    cases ht
    cases hf
    have hcs : ((⟨#[115]⟩ : ByteArray).size : Int) = 1 := rfl
    obtain rfl : n = 1 := by omega
    have hsl : ss.length = 1 := hss.trans (by decide)
    have hnl : ns.length = 0 := hns.trans (by decide)
    match ss, ns, hsl, hnl, hsz, h64 with
    | [t0], [], _, _, hsz, h64 =>
      have z0 := hsz t0 (by simp)
      clear hsz h64
      refine .inl ⟨_, rfl, rfl, rfl, fun _ _ => rfl, fun W sv nv hBW hMW hS hN => ?_⟩
      obtain ⟨A, cA, rfl, hA⟩ := hS
      obtain ⟨g, rfl, hg, hx⟩ := hA (by simp)
      have q0 := hx 0 _ rfl
      exact texts_num g cA 1 (by decide) t0 z0 nv text W hMW q0
  rw [if_neg eNUM] at ht hf ⊢
  by_cases eREV : (⟨#[82, 69, 86]⟩ : ByteArray) = s
  · rw [if_pos eREV] at ht hf ⊢
    cases ht
    cases hf
    have hcs : ((⟨#[115]⟩ : ByteArray).size : Int) = 1 := rfl
    obtain rfl : n = 1 := by omega
    have hsl : ss.length = 1 := hss.trans (by decide)
    have hnl : ns.length = 0 := hns.trans (by decide)
    match ss, ns, hsl, hnl, hsz, h64 with
    | [t0], [], _, _, hsz, h64 =>
      have z0 := hsz t0 (by simp)
      clear hsz h64
      refine .inr ⟨_, _, rfl, rfl, rfl, fun _ _ => rfl, fun W sv nv hBW hMW hS hN => ?_⟩
      obtain ⟨A, cA, rfl, hA⟩ := hS
      obtain ⟨g, rfl, hg, hx⟩ := hA (by simp)
      have q0 := hx 0 _ rfl
      exact texts_text _ (fun _ _ => rfl) _ g cA 1 (by decide) nv text t0 _ W (cell_below hk4 hBW) q0 (fun W2 hW2 => texts_rev t0 (by omega) W2)
  rw [if_neg eREV] at ht hf ⊢
  by_cases eEXACT : (⟨#[69, 88, 65, 67, 84]⟩ : ByteArray) = s
  · rw [if_pos eEXACT] at ht hf ⊢
    cases ht
    cases hf
    have hcs : ((⟨#[115, 115]⟩ : ByteArray).size : Int) = 2 := rfl
    obtain rfl : n = 2 := by omega
    have hsl : ss.length = 2 := hss.trans (by decide)
    have hnl : ns.length = 0 := hns.trans (by decide)
    match ss, ns, hsl, hnl, hsz, h64 with
    | [t0, t1], [], _, _, hsz, h64 =>
      have z0 := hsz t0 (by simp)
      have z1 := hsz t1 (by simp)
      clear hsz h64
      refine .inl ⟨_, rfl, rfl, rfl, fun _ _ => rfl, fun W sv nv hBW hMW hS hN => ?_⟩
      obtain ⟨A, cA, rfl, hA⟩ := hS
      obtain ⟨g, rfl, hg, hx⟩ := hA (by simp)
      have q0 := hx 0 _ rfl
      have q1 := hx 1 _ rfl
      exact texts_exact g cA nv text t0 t1 W q0 q1
  rw [if_neg eEXACT] at ht hf ⊢
  by_cases eCHAR : (⟨#[67, 72, 65, 82]⟩ : ByteArray) = s
  · rw [if_pos eCHAR] at ht hf ⊢
    cases ht
    cases hf
    have hcs : ((⟨#[110]⟩ : ByteArray).size : Int) = 1 := rfl
    obtain rfl : n = 1 := by omega
    have hsl : ss.length = 0 := hss.trans (by decide)
    have hnl : ns.length = 1 := hns.trans (by decide)
    match ss, ns, hsl, hnl, hsz, h64 with
    | [], [a0], _, _, hsz, h64 =>
      have i0 := h64 a0 (by simp)
      clear hsz h64
      refine .inl ⟨_, rfl, rfl, rfl, fun _ _ => rfl, fun W sv nv hBW hMW hS hN => ?_⟩
      obtain ⟨B, cB, rfl, hB2⟩ := hN
      obtain ⟨gn, rfl, hgn, hy⟩ := hB2 (by simp)
      have r0 := hy 0 _ rfl
      exact texts_char gn cB 1 (by decide) a0 i0 sv text W r0
  rw [if_neg eCHAR] at ht hf ⊢
  by_cases eORD : (⟨#[79, 82, 68]⟩ : ByteArray) = s
  · rw [if_pos eORD] at ht hf ⊢
    cases ht
    cases hf
    have hcs : ((⟨#[115]⟩ : ByteArray).size : Int) = 1 := rfl
    obtain rfl : n = 1 := by omega
    have hsl : ss.length = 1 := hss.trans (by decide)
    have hnl : ns.length = 0 := hns.trans (by decide)
    match ss, ns, hsl, hnl, hsz, h64 with
    | [t0], [], _, _, hsz, h64 =>
      have z0 := hsz t0 (by simp)
      clear hsz h64
      refine .inl ⟨_, rfl, rfl, rfl, fun _ _ => rfl, fun W sv nv hBW hMW hS hN => ?_⟩
      obtain ⟨A, cA, rfl, hA⟩ := hS
      obtain ⟨g, rfl, hg, hx⟩ := hA (by simp)
      have q0 := hx 0 _ rfl
      exact texts_ord g cA 1 (by decide) nv text t0 W q0
  rw [if_neg eORD] at ht hf ⊢
  by_cases eCONCAT : (⟨#[67, 79, 78, 67, 65, 84]⟩ : ByteArray) = s
  · rw [if_pos eCONCAT] at ht hf ⊢
    cases ht
    cases hf
    have hn1 : 1 ≤ n := by omega
    obtain ⟨m, rfl⟩ : ∃ m, n = m + 1 := ⟨n - 1, by omega⟩
    have hpos : 0 < ss.length := by
      rw [hss]
      unfold cntK
      simp [List.take_succ_cons]
    have hle : ss.length ≤ 16 := by
      have := cntK_all ⟨#[115, 115, 115, 115, 115, 115, 115, 115, 115, 115, 115, 115, 115, 115, 115, 115]⟩ (m + 1)
      have h16 : ((⟨#[115, 115, 115, 115, 115, 115, 115, 115, 115, 115, 115, 115, 115, 115, 115, 115]⟩ : ByteArray).size : Int) = 16 := rfl
      omega
    refine .inl ⟨_, rfl, rfl, rfl, fun _ _ => rfl, fun W sv nv hBW hMW hS hN => ?_⟩
    obtain ⟨A, cA, rfl, hA⟩ := hS
    obtain ⟨g, rfl, hg, hx⟩ := hA hpos
    exact texts_concat g cA ss (by omega) nv text (by omega) W hg hx
  rw [if_neg eCONCAT] at ht hf ⊢
  by_cases eSUBST : (⟨#[83, 85, 66, 83, 84]⟩ : ByteArray) = s
  · rw [if_pos eSUBST] at ht hf ⊢
    cases ht
    cases hf
    have hcs : ((⟨#[115, 115, 115]⟩ : ByteArray).size : Int) = 3 := rfl
    obtain rfl : n = 3 := by omega
    have hsl : ss.length = 3 := hss.trans (by decide)
    have hnl : ns.length = 0 := hns.trans (by decide)
    match ss, ns, hsl, hnl, hsz, h64 with
    | [t0, t1, t2], [], _, _, hsz, h64 =>
      have z0 := hsz t0 (by simp)
      have z1 := hsz t1 (by simp)
      have z2 := hsz t2 (by simp)
      clear hsz h64
      refine .inl ⟨_, rfl, rfl, rfl, fun _ _ => rfl, fun W sv nv hBW hMW hS hN => ?_⟩
      obtain ⟨A, cA, rfl, hA⟩ := hS
      obtain ⟨g, rfl, hg, hx⟩ := hA (by simp)
      have q0 := hx 0 _ rfl
      have q1 := hx 1 _ rfl
      have q2 := hx 2 _ rfl
      exact texts_subst g cA t0 t1 t2 z0 z2 nv text (by omega) W hMW q0 q1 q2
  rw [if_neg eSUBST] at ht hf ⊢
  by_cases eFIND : (⟨#[70, 73, 78, 68]⟩ : ByteArray) = s
  · rw [if_pos eFIND] at ht hf ⊢
    cases ht
    cases hf
    have hcs : ((⟨#[115, 115, 110]⟩ : ByteArray).size : Int) = 3 := rfl
    obtain rfl | rfl : n = 2 ∨ n = 3 := by omega
    · have hsl : ss.length = 2 := hss.trans (by decide)
      have hnl : ns.length = 0 := hns.trans (by decide)
      match ss, ns, hsl, hnl, hsz, h64 with
      | [t0, t1], [], _, _, hsz, h64 =>
        have z0 := hsz t0 (by simp)
        have z1 := hsz t1 (by simp)
        clear hsz h64
        refine .inl ⟨_, rfl, rfl, rfl, fun _ _ => rfl, fun W sv nv hBW hMW hS hN => ?_⟩
        obtain ⟨A, cA, rfl, hA⟩ := hS
        obtain ⟨g, rfl, hg, hx⟩ := hA (by simp)
        have q0 := hx 0 _ rfl
        have q1 := hx 1 _ rfl
        obtain ⟨B, cB, rfl, _⟩ := hN
        exact texts_place0 g cA cB B t0 t1 z1 text W hMW q0 q1
    · have hsl : ss.length = 2 := hss.trans (by decide)
      have hnl : ns.length = 1 := hns.trans (by decide)
      match ss, ns, hsl, hnl, hsz, h64 with
      | [t0, t1], [a0], _, _, hsz, h64 =>
        have z0 := hsz t0 (by simp)
        have z1 := hsz t1 (by simp)
        have i0 := h64 a0 (by simp)
        clear hsz h64
        refine .inl ⟨_, rfl, rfl, rfl, fun _ _ => rfl, fun W sv nv hBW hMW hS hN => ?_⟩
        obtain ⟨A, cA, rfl, hA⟩ := hS
        obtain ⟨g, rfl, hg, hx⟩ := hA (by simp)
        have q0 := hx 0 _ rfl
        have q1 := hx 1 _ rfl
        obtain ⟨B, cB, rfl, hB2⟩ := hN
        obtain ⟨gn, rfl, hgn, hy⟩ := hB2 (by simp)
        have r0 := hy 0 _ rfl
        exact texts_place1 g cA cB gn a0 i0 t0 t1 z1 text W hMW q0 q1 r0
  rw [if_neg eFIND] at ht hf ⊢
  by_cases eREPT : (⟨#[82, 69, 80, 84]⟩ : ByteArray) = s
  · rw [if_pos eREPT] at ht hf ⊢
    cases ht
    cases hf
    have hcs : ((⟨#[115, 110]⟩ : ByteArray).size : Int) = 2 := rfl
    obtain rfl : n = 2 := by omega
    have hsl : ss.length = 1 := hss.trans (by decide)
    have hnl : ns.length = 1 := hns.trans (by decide)
    match ss, ns, hsl, hnl, hsz, h64 with
    | [t0], [a0], _, _, hsz, h64 =>
      have z0 := hsz t0 (by simp)
      have i0 := h64 a0 (by simp)
      clear hsz h64
      refine .inl ⟨_, rfl, rfl, rfl, fun _ _ => rfl, fun W sv nv hBW hMW hS hN => ?_⟩
      obtain ⟨A, cA, rfl, hA⟩ := hS
      obtain ⟨g, rfl, hg, hx⟩ := hA (by simp)
      have q0 := hx 0 _ rfl
      obtain ⟨B, cB, rfl, hB2⟩ := hN
      obtain ⟨gn, rfl, hgn, hy⟩ := hB2 (by simp)
      have r0 := hy 0 _ rfl
      exact texts_rept g cA gn cB 1 1 (by decide) (by decide) t0 a0 i0 z0 text (by omega) W q0 r0
  rw [if_neg eREPT] at ht hf ⊢
  by_cases eTRIM : (⟨#[84, 82, 73, 77]⟩ : ByteArray) = s
  · rw [if_pos eTRIM] at ht hf ⊢
    cases ht
    cases hf
    have hcs : ((⟨#[115]⟩ : ByteArray).size : Int) = 1 := rfl
    obtain rfl : n = 1 := by omega
    have hsl : ss.length = 1 := hss.trans (by decide)
    have hnl : ns.length = 0 := hns.trans (by decide)
    match ss, ns, hsl, hnl, hsz, h64 with
    | [t0], [], _, _, hsz, h64 =>
      have z0 := hsz t0 (by simp)
      clear hsz h64
      refine .inr ⟨_, _, rfl, rfl, rfl, fun _ _ => rfl, fun W sv nv hBW hMW hS hN => ?_⟩
      obtain ⟨A, cA, rfl, hA⟩ := hS
      obtain ⟨g, rfl, hg, hx⟩ := hA (by simp)
      have q0 := hx 0 _ rfl
      exact texts_text _ (fun _ _ => rfl) _ g cA 1 (by decide) nv text t0 _ W (cell_below hk3 hBW) q0 (fun W2 hW2 => texts_trim t0 z0 W2 (hMW.below hW2))
  rw [if_neg eTRIM] at ht hf ⊢
  by_cases eLOWER : (⟨#[76, 79, 87, 69, 82]⟩ : ByteArray) = s
  · rw [if_pos eLOWER] at ht hf ⊢
    cases ht
    cases hf
    have hcs : ((⟨#[115]⟩ : ByteArray).size : Int) = 1 := rfl
    obtain rfl : n = 1 := by omega
    have hsl : ss.length = 1 := hss.trans (by decide)
    have hnl : ns.length = 0 := hns.trans (by decide)
    match ss, ns, hsl, hnl, hsz, h64 with
    | [t0], [], _, _, hsz, h64 =>
      have z0 := hsz t0 (by simp)
      clear hsz h64
      refine .inr ⟨_, _, rfl, rfl, rfl, fun _ _ => rfl, fun W sv nv hBW hMW hS hN => ?_⟩
      obtain ⟨A, cA, rfl, hA⟩ := hS
      obtain ⟨g, rfl, hg, hx⟩ := hA (by simp)
      have q0 := hx 0 _ rfl
      exact texts_text _ (fun _ _ => rfl) _ g cA 1 (by decide) nv text t0 _ W (cell_below hk2 hBW) q0 (fun W2 hW2 => texts_lower t0 (by omega) W2)
  rw [if_neg eLOWER] at ht hf ⊢
  by_cases eUPPER : (⟨#[85, 80, 80, 69, 82]⟩ : ByteArray) = s
  · rw [if_pos eUPPER] at ht hf ⊢
    cases ht
    cases hf
    have hcs : ((⟨#[115]⟩ : ByteArray).size : Int) = 1 := rfl
    obtain rfl : n = 1 := by omega
    have hsl : ss.length = 1 := hss.trans (by decide)
    have hnl : ns.length = 0 := hns.trans (by decide)
    match ss, ns, hsl, hnl, hsz, h64 with
    | [t0], [], _, _, hsz, h64 =>
      have z0 := hsz t0 (by simp)
      clear hsz h64
      refine .inr ⟨_, _, rfl, rfl, rfl, fun _ _ => rfl, fun W sv nv hBW hMW hS hN => ?_⟩
      obtain ⟨A, cA, rfl, hA⟩ := hS
      obtain ⟨g, rfl, hg, hx⟩ := hA (by simp)
      have q0 := hx 0 _ rfl
      exact texts_text _ (fun _ _ => rfl) _ g cA 1 (by decide) nv text t0 _ W (cell_below hk1 hBW) q0 (fun W2 hW2 => texts_upper t0 (by omega) W2)
  rw [if_neg eUPPER] at ht hf ⊢
  by_cases eMID : (⟨#[77, 73, 68]⟩ : ByteArray) = s
  · rw [if_pos eMID] at ht hf ⊢
    cases ht
    cases hf
    have hcs : ((⟨#[115, 110, 110]⟩ : ByteArray).size : Int) = 3 := rfl
    obtain rfl : n = 3 := by omega
    have hsl : ss.length = 1 := hss.trans (by decide)
    have hnl : ns.length = 2 := hns.trans (by decide)
    match ss, ns, hsl, hnl, hsz, h64 with
    | [t0], [a0, a1], _, _, hsz, h64 =>
      have z0 := hsz t0 (by simp)
      have i0 := h64 a0 (by simp)
      have i1 := h64 a1 (by simp)
      clear hsz h64
      refine .inl ⟨_, rfl, rfl, rfl, fun _ _ => rfl, fun W sv nv hBW hMW hS hN => ?_⟩
      obtain ⟨A, cA, rfl, hA⟩ := hS
      obtain ⟨g, rfl, hg, hx⟩ := hA (by simp)
      have q0 := hx 0 _ rfl
      obtain ⟨B, cB, rfl, hB2⟩ := hN
      obtain ⟨gn, rfl, hgn, hy⟩ := hB2 (by simp)
      have r0 := hy 0 _ rfl
      have r1 := hy 1 _ rfl
      exact texts_mid g cA gn cB 1 (by decide) a0 a1 text i0 t0 (by omega) W q0 r0 r1
  rw [if_neg eMID] at ht hf ⊢
  by_cases eRIGHT : (⟨#[82, 73, 71, 72, 84]⟩ : ByteArray) = s
  · rw [if_pos eRIGHT] at ht hf ⊢
    cases ht
    cases hf
    have hcs : ((⟨#[115, 110]⟩ : ByteArray).size : Int) = 2 := rfl
    obtain rfl | rfl : n = 1 ∨ n = 2 := by omega
    · have hsl : ss.length = 1 := hss.trans (by decide)
      have hnl : ns.length = 0 := hns.trans (by decide)
      match ss, ns, hsl, hnl, hsz, h64 with
      | [t0], [], _, _, hsz, h64 =>
        have z0 := hsz t0 (by simp)
        clear hsz h64
        refine .inl ⟨_, rfl, rfl, rfl, fun _ _ => rfl, fun W sv nv hBW hMW hS hN => ?_⟩
        obtain ⟨A, cA, rfl, hA⟩ := hS
        obtain ⟨g, rfl, hg, hx⟩ := hA (by simp)
        have q0 := hx 0 _ rfl
        obtain ⟨B, cB, rfl, _⟩ := hN
        exact texts_right g cA 1 (by decide) _ text 1 ⟨by decide, by decide⟩ t0 (by omega) W q0 (fun W2 hW2 => texts_count0 _ B cB text W2)
    · have hsl : ss.length = 1 := hss.trans (by decide)
      have hnl : ns.length = 1 := hns.trans (by decide)
      match ss, ns, hsl, hnl, hsz, h64 with
      | [t0], [a0], _, _, hsz, h64 =>
        have z0 := hsz t0 (by simp)
        have i0 := h64 a0 (by simp)
        clear hsz h64
        refine .inl ⟨_, rfl, rfl, rfl, fun _ _ => rfl, fun W sv nv hBW hMW hS hN => ?_⟩
        obtain ⟨A, cA, rfl, hA⟩ := hS
        obtain ⟨g, rfl, hg, hx⟩ := hA (by simp)
        have q0 := hx 0 _ rfl
        obtain ⟨B, cB, rfl, hB2⟩ := hN
        obtain ⟨gn, rfl, hgn, hy⟩ := hB2 (by simp)
        have r0 := hy 0 _ rfl
        exact texts_right g cA 1 (by decide) _ text a0 i0 t0 (by omega) W q0 (fun W2 hW2 => texts_count1 _ gn cB a0 text W2 ((hW2.cell (p := ⟨gn, 0, none⟩) hgn).trans r0))
  rw [if_neg eRIGHT] at ht hf ⊢
  by_cases eLEFT : (⟨#[76, 69, 70, 84]⟩ : ByteArray) = s
  · rw [if_pos eLEFT] at ht hf ⊢
    cases ht
    cases hf
    have hcs : ((⟨#[115, 110]⟩ : ByteArray).size : Int) = 2 := rfl
    obtain rfl | rfl : n = 1 ∨ n = 2 := by omega
    · have hsl : ss.length = 1 := hss.trans (by decide)
      have hnl : ns.length = 0 := hns.trans (by decide)
      match ss, ns, hsl, hnl, hsz, h64 with
      | [t0], [], _, _, hsz, h64 =>
        have z0 := hsz t0 (by simp)
        clear hsz h64
        refine .inl ⟨_, rfl, rfl, rfl, fun _ _ => rfl, fun W sv nv hBW hMW hS hN => ?_⟩
        obtain ⟨A, cA, rfl, hA⟩ := hS
        obtain ⟨g, rfl, hg, hx⟩ := hA (by simp)
        have q0 := hx 0 _ rfl
        obtain ⟨B, cB, rfl, _⟩ := hN
        exact texts_left g cA 1 (by decide) _ text 1 ⟨by decide, by decide⟩ t0 (by omega) W q0 (fun W2 hW2 => texts_count0 _ B cB text W2)
    · have hsl : ss.length = 1 := hss.trans (by decide)
      have hnl : ns.length = 1 := hns.trans (by decide)
      match ss, ns, hsl, hnl, hsz, h64 with
      | [t0], [a0], _, _, hsz, h64 =>
        have z0 := hsz t0 (by simp)
        have i0 := h64 a0 (by simp)
        clear hsz h64
        refine .inl ⟨_, rfl, rfl, rfl, fun _ _ => rfl, fun W sv nv hBW hMW hS hN => ?_⟩
        obtain ⟨A, cA, rfl, hA⟩ := hS
        obtain ⟨g, rfl, hg, hx⟩ := hA (by simp)
        have q0 := hx 0 _ rfl
        obtain ⟨B, cB, rfl, hB2⟩ := hN
        obtain ⟨gn, rfl, hgn, hy⟩ := hB2 (by simp)
        have r0 := hy 0 _ rfl
        exact texts_left g cA 1 (by decide) _ text a0 i0 t0 (by omega) W q0 (fun W2 hW2 => texts_count1 _ gn cB a0 text W2 ((hW2.cell (p := ⟨gn, 0, none⟩) hgn).trans r0))
  rw [if_neg eLEFT] at ht hf ⊢
  by_cases eLEN : (⟨#[76, 69, 78]⟩ : ByteArray) = s
  · rw [if_pos eLEN] at ht hf ⊢
    cases ht
    cases hf
    have hcs : ((⟨#[115]⟩ : ByteArray).size : Int) = 1 := rfl
    obtain rfl : n = 1 := by omega
    have hsl : ss.length = 1 := hss.trans (by decide)
    have hnl : ns.length = 0 := hns.trans (by decide)
    match ss, ns, hsl, hnl, hsz, h64 with
    | [t0], [], _, _, hsz, h64 =>
      have z0 := hsz t0 (by simp)
      clear hsz h64
      refine .inl ⟨_, rfl, rfl, rfl, fun _ _ => rfl, fun W sv nv hBW hMW hS hN => ?_⟩
      obtain ⟨A, cA, rfl, hA⟩ := hS
      obtain ⟨g, rfl, hg, hx⟩ := hA (by simp)
      have q0 := hx 0 _ rfl
      exact texts_len g cA 1 (by decide) nv text t0 (by omega) W q0
  rw [if_neg eLEN] at ht hf ⊢
  cases ht
end Go.Proofs.YtegbhdeaicgpkaaGreatDoor
