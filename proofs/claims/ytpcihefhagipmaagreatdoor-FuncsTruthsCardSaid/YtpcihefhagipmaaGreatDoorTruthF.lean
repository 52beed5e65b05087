/-
  The functions of how many are true (AND, OR, XOR, NOT), over a list of values: what each answers.
-/
import Derived.Test.YtpcihefhagipmaaGreatDoorCall
namespace Go.Proofs.YtpcihefhagipmaaGreatDoor
open Go Go.RowKit

theorem truths_asks (v : V) (w : World) : Calls Tryz.prog 119 #[(Value.agg #[Value.int .i64 (v).tag, Value.int .i64 (v).num, Value.string (v).str, Value.bool (v).is, Value.int .i64 (v).code])] w fun e w' => e = .returned (.bool (v.tag == 4)) ∧ Below w.heap.size w w' := by
  go_enter Tryz.func119, Tryz.ntmps119
  go_wp2
  go_ret
  exact ⟨rfl, (by repeat (first | with_reducible exact Below.refl _ _ | with_reducible assumption | with_reducible refine below_more' ?_ (by go_size) | with_reducible refine bel_alloc ?_ _ (by go_size) | with_reducible refine Below.drew ?_ | with_reducible refine Below.setCell ?_ (by go_size) _ | with_reducible refine below_drewN ?_ _))⟩

/-- Where the first fault stands. -/
def IdxF (vs : List V) (r : Int) : Prop := (∃ (k : Nat) (v : V), r = k ∧ vs[k]? = some v ∧ v.tag = 4 ∧ ∀ j u, j < k → vs[j]? = some u → u.tag ≠ 4) ∨ (r = -1 ∧ ∀ (j : Nat) (u : V), vs[j]? = some u → u.tag ≠ 4)
set_option maxRecDepth 100000 in
theorem index_fault (vs : List V) (g n c : Nat) (w : World) (hn : vs.length = n) (hm : n ≤ 1000000000000) (hl : g < w.heap.size) (h : Held w g vs) :
    Calls Tryz.prog 118 #[.slice (some ⟨g, 0, none⟩) n c, .func (.func 119) #[] #[]] w fun e w' => (∃ r, e = .returned (.int .i64 r) ∧ IdxF vs r) ∧ Below w.heap.size w w' := by
  have H := Lib.hid h
  clear h
  go_enter Tryz.func118, Tryz.ntmps118
  go_wp2
  go_loopw [8] (fun t wr => ∃ k : Nat, k ≤ n ∧ t = .int .i64 k ∧ (∀ j u, j < k → vs[j]? = some u → u.tag ≠ 4) ∧ Below w.heap.size w wr) (fun t _ => n - (intOf t).toNat)
  case atStart => exact ⟨0, Nat.zero_le _, rfl, fun j u hj => by omega, Below.refl _ _⟩
  case round =>
    obtain ⟨k, hk, rfl, hno, hB⟩ := hrel
    by_cases hlt : k < n
    · obtain ⟨v, hv⟩ : ∃ v, vs[k]? = some v := ⟨_, List.getElem?_eq_getElem (show k < vs.length by omega)⟩
      obtain ⟨v0, v1, v2, v3, v4⟩ := (H.out.keeps (keeps_below hB)).at k v hv _ _ _ _ _ rfl rfl rfl rfl rfl
      have HV := Lib.hid hv
      have HN := Lib.hid hno
      have hB' := Lib.hid hB
      have hs := hB.size
      clear hv hno hB
      by_cases ht : v.tag = 4
      · have ht' : (v.tag == 4) = true := by simp [ht]
        have HT := Lib.hid ht
        clear ht
        go_wp2_with (first | (go_at_call 119; refine (truths_asks v _).mono ?_; rintro e w1 ⟨rfl, hb⟩; obtain ⟨l, q, rfl⟩ := more_of_below hb; clear hb))
        go_ret
        exact ⟨⟨_, rfl, .inl ⟨k, v, rfl, HV.out, HT.out, HN.out⟩⟩, hB'.out.trans ((show Below wr.heap.size wr _ from (by repeat (first | with_reducible exact Below.refl _ _ | with_reducible assumption | with_reducible refine below_more' ?_ (by go_size) | with_reducible refine bel_alloc ?_ _ (by go_size) | with_reducible refine Below.drew ?_ | with_reducible refine Below.setCell ?_ (by go_size) _ | with_reducible refine below_drewN ?_ _))).mono hs)⟩
      · have ht' : (v.tag == 4) = false := by simp [ht]
        have HT := Lib.hid ht
        clear ht
        go_wp2_with (first | (go_at_call 119; refine (truths_asks v _).mono ?_; rintro e w1 ⟨rfl, hb⟩; obtain ⟨l, q, rfl⟩ := more_of_below hb; clear hb))
        go_roundw
        case rel =>
          refine ⟨k + 1, by omega, by go_num, fun j u hj hu => ?_, hB'.out.trans ((show Below wr.heap.size wr _ from (by repeat (first | with_reducible exact Below.refl _ _ | with_reducible assumption | with_reducible refine below_more' ?_ (by go_size) | with_reducible refine bel_alloc ?_ _ (by go_size) | with_reducible refine Below.drew ?_ | with_reducible refine Below.setCell ?_ (by go_size) _ | with_reducible refine below_drewN ?_ _))).mono hs)⟩
          by_cases e : j = k
          · subst e
            rw [HV.out] at hu
            cases hu
            exact HT.out
          · exact HN.out j u (by omega) hu
        case measure => simp [intOf]; omega
    · have hno' := Lib.hid hno
      clear hno
      go_wp2
      go_ret
      exact ⟨⟨_, rfl, .inr ⟨rfl, fun j u hu => hno'.out j u (by have := (List.getElem?_eq_some_iff.1 hu).1; omega) hu⟩⟩, hB⟩

/-- What the functions of how many are true answer. -/
def truthsG (fy : Nat → Nat → Bool) (vs : List V) : V := match vs.find? (fun v => v.tag == 4) with
  | some v => v
  | none => match vs.find? (fun v => (asBoolG v).2 != 0) with
    | some v => errG (asBoolG v).2
    | none => truthG (fy (vs.countP fun v => (asBoolG v).1) vs.length)
theorem find_first {p : V → Bool} {vs : List V} {k : Nat} {v : V} (hv : vs[k]? = some v) (hp : p v = true) (hno : ∀ j u, j < k → vs[j]? = some u → p u = false) : vs.find? p = some v := by
  induction vs generalizing k with
  | nil => simp at hv
  | cons x xs ih =>
    cases k with
    | zero => simp at hv; subst hv; simp [hp]
    | succ k =>
      have h0 := hno 0 x (by omega) rfl
      rw [List.find?_cons, h0]
      exact ih (by simpa using hv) (fun j u hj hu => hno (j + 1) u (by omega) (by simpa using hu))
theorem find_no {p : V → Bool} {vs : List V} (hno : ∀ (j : Nat) u, vs[j]? = some u → p u = false) : vs.find? p = none := by
  rw [List.find?_eq_none]
  intro x hx
  obtain ⟨j, hj⟩ := List.mem_iff_getElem?.1 hx
  rw [hno j x hj]
  simp
theorem count_take {p : V → Bool} {vs : List V} {k : Nat} {v : V} (hv : vs[k]? = some v) : (vs.take (k + 1)).countP p = (vs.take k).countP p + if p v then 1 else 0 := by
  rw [take_one hv, List.countP_append]
  simp [List.countP_cons]

theorem fault_cases (vs : List V) : (∃ (k : Nat) (v : V), vs[k]? = some v ∧ v.tag = 4 ∧ ∀ j u, j < k → vs[j]? = some u → u.tag ≠ 4) ∨ ∀ (j : Nat) (u : V), vs[j]? = some u → u.tag ≠ 4 := by
  induction vs with
  | nil => exact .inr fun j u h => by simp at h
  | cons x xs ih =>
    by_cases hx : x.tag = 4
    · exact .inl ⟨0, x, rfl, hx, fun j u hj => by omega⟩
    · rcases ih with ⟨k, v, hv, ht, hno⟩ | hno
      · refine .inl ⟨k + 1, v, by simpa using hv, ht, fun j u hj hu => ?_⟩
        cases j with
        | zero => simp at hu; subst hu; exact hx
        | succ j => exact hno j u (by omega) (by simpa using hu)
      · refine .inr fun j u hu => ?_
        cases j with
        | zero => simp at hu; subst hu; exact hx
        | succ j => exact hno j u (by simpa using hu)
theorem idx_some {vs : List V} {r : Int} (h : IdxF vs r) {k : Nat} {v : V} (hv : vs[k]? = some v) (ht : v.tag = 4) (hno : ∀ j u, j < k → vs[j]? = some u → u.tag ≠ 4) : r = k := by
  rcases h with ⟨k', v', rfl, hv', ht', hno'⟩ | ⟨_, hn⟩
  · rcases Nat.lt_trichotomy k k' with h | h | h
    · exact absurd ht (hno' k v h hv)
    · rw [h]
    · exact absurd ht' (hno k' v' h hv')
  · exact absurd ht (hn k v hv)
theorem idx_none {vs : List V} {r : Int} (h : IdxF vs r) (hno : ∀ (j : Nat) (u : V), vs[j]? = some u → u.tag ≠ 4) : r = -1 := by
  rcases h with ⟨k', v', rfl, hv', ht', hno'⟩ | ⟨e, _⟩
  · exact absurd ht' (hno k' v' hv')
  · exact e

set_option maxRecDepth 100000 in
set_option maxHeartbeats 2000000 in
theorem funcs_truthsV (fk : Nat) (fy : Nat → Nat → Bool) (hk : ∀ (args : Array Value) (w : World), Sem.run Tryz.prog (callFunc fk args) w = .ok (.enter fk args) w)
    (hf : ∀ (a b : Nat) (w : World), a ≤ b → b ≤ 1000000000000 → Calls Tryz.prog fk #[.int .i64 a, .int .i64 b] w fun e w' => e = .returned (.bool (fy a b)) ∧ w = w')
    (vs : List V) (p g n c : Nat) (w : World) (hn : vs.length = n) (hm : n ≤ 1000000000000) (h0 : 0 < n) (hp : w.cell? ⟨p, 0, none⟩ = some (.func (.func fk) #[] #[])) (h : Held w g vs) :
    Calls Tryz.prog 117 #[.slice (some ⟨g, 0, none⟩) n c, .pointer (some ⟨p, 0, none⟩)] w fun e w' => e = .returned (Value.agg #[Value.int .i64 (truthsG fy vs).tag, Value.int .i64 (truthsG fy vs).num, Value.string (truthsG fy vs).str, Value.bool (truthsG fy vs).is, Value.int .i64 (truthsG fy vs).code]) ∧ Below w.heap.size w w' := by
  have H := Lib.hid h
  have hpl := World.block_lt_of_cell? w _ hp
  have hgl : g < w.heap.size := by
    obtain ⟨v, hv⟩ : ∃ v, vs[0]? = some v := ⟨_, List.getElem?_eq_getElem (show 0 < vs.length by omega)⟩
    exact World.block_lt_of_cell? w _ (h.at 0 v hv 0 1 2 3 4 rfl rfl rfl rfl rfl).1
  have HF := Lib.hid hf
  clear h hf
  have hH1 : Held (w.alloc zeroV) g vs := H.out.keeps (by repeat (first | with_reducible exact keeps_refl _ | with_reducible assumption | with_reducible refine keeps_alloc ?_ _ | with_reducible refine keeps_more ?_ _ _ | with_reducible refine keeps_drew ?_ | with_reducible refine keeps_drewN ?_ _))
  unfold zeroV at hH1
  have HH1 := Lib.hid hH1
  clear hH1
  obtain ⟨cnt, hc0, hcS, hcn, hcl⟩ : ∃ cnt : Nat → Nat, cnt 0 = 0 ∧ (∀ j v, vs[j]? = some v → cnt (j + 1) = cnt j + if (asBoolG v).1 then 1 else 0) ∧ cnt n = vs.countP (fun v => (asBoolG v).1) ∧ ∀ j, cnt j ≤ n := by
    refine ⟨fun j => (vs.take j).countP fun v => (asBoolG v).1, rfl, fun j v hv => count_take hv, by simp only; rw [List.take_of_length_le (by omega)], fun j => ?_⟩
    refine Nat.le_trans List.countP_le_length ?_
    rw [List.length_take]
    omega
  have HCS := Lib.hid hcS
  have HCN := Lib.hid hcn
  have HCL := Lib.hid hcl
  clear hcS hcn hcl
  rcases fault_cases vs with ⟨k, v, hv, ht, hno⟩ | hno
  · obtain ⟨v0, v1, v2, v3, v4⟩ := H.out.at k v hv _ _ _ _ _ rfl rfl rfl rfl rfl
    have hkn : k < n := by have := (List.getElem?_eq_some_iff.1 hv).1; omega
    have E := Lib.hid (show truthsG fy vs = v by unfold truthsG; rw [find_first (p := fun v => v.tag == 4) hv (by simp [ht]) (fun j u hj hu => by simp [hno j u hj hu])])
    have HI := Lib.hid (fun r (hr : IdxF vs r) => idx_some hr hv ht hno)
    clear hv ht hno
    go_enter Tryz.func117, Tryz.ntmps117
    go_wp2_with (first | (go_at_call 118; refine (index_fault vs g n c _ hn hm (by simp; omega) HH1.out).mono ?_; rintro e w1 ⟨⟨r, rfl, hr⟩, hb⟩; obtain rfl := HI.out r hr; clear hr; obtain ⟨l, q, rfl⟩ := more_of_below hb; clear hb))
    go_returns
    exact ⟨by rw [E.out], (by repeat (first | with_reducible exact Below.refl _ _ | with_reducible assumption | with_reducible refine below_more' ?_ (by go_size) | with_reducible refine bel_alloc ?_ _ (by go_size) | with_reducible refine Below.drew ?_ | with_reducible refine Below.setCell ?_ (by go_size) _ | with_reducible refine below_drewN ?_ _))⟩
  · have hF0 := Lib.hid (find_no (p := fun v => v.tag == 4) (vs := vs) (fun j u hu => by simp [hno j u hu]))
    have HI := Lib.hid (fun r (hr : IdxF vs r) => idx_none hr hno)
    clear hno
    go_enter Tryz.func117, Tryz.ntmps117
    go_wp2_with (first | (go_at_call 118; refine (index_fault vs g n c _ hn hm (by simp; omega) HH1.out).mono ?_; rintro e w1 ⟨⟨r, rfl, hr⟩, hb⟩; obtain rfl := HI.out r hr; clear hr; obtain ⟨l, q, rfl⟩ := more_of_below hb; clear hb))
    go_loopw [20, 5] (fun t m wr => ∃ j : Nat, j ≤ n ∧ t = .int .i64 j ∧ m = .int .i64 (cnt j : Nat) ∧ (∀ i u, i < j → vs[i]? = some u → ((asBoolG u).2 != 0) = false) ∧ Below (w.alloc zeroV).heap.size (w.alloc zeroV) wr) (fun t _ _ => n - (intOf t).toNat)
    case atStart => exact ⟨0, Nat.zero_le _, rfl, by rw [hc0]; rfl, fun i u hi => by omega, below_more (Nat.le_refl _)⟩
    case round =>
      obtain ⟨j, hj, rfl, rfl, hz, hB⟩ := hrel
      obtain ⟨l1, q1, rfl⟩ := more_of_below hB
      clear hB
      unfold zeroV at *
      by_cases hlt : j < n
      · obtain ⟨v, hv⟩ : ∃ v, vs[j]? = some v := ⟨_, List.getElem?_eq_getElem (show j < vs.length by omega)⟩
        obtain ⟨v0, v1, v2, v3, v4⟩ := H.out.at j v hv _ _ _ _ _ rfl rfl rfl rfl rfl
        have hcj := Lib.hid (HCL.out j)
        have hcj' : cnt j ≤ n := HCL.out j
        have hst := HCS.out j v hv
        by_cases hc : (asBoolG v).2 = 0
        · have hc' : ((asBoolG v).2 != 0) = false := by simp [hc]
          have HZ := Lib.hid (show ∀ i u, i < j + 1 → vs[i]? = some u → ((asBoolG u).2 != 0) = false from fun i u hi hu => by
            by_cases e : i = j
            · subst e; rw [hv] at hu; cases hu; exact hc'
            · exact hz i u (by omega) hu)
          cases hb : (asBoolG v).1
          · rw [hb] at hst
            have HST := Lib.hid hst
            clear hz hc hv hst
            go_wp2_with (first | (go_at_call 115; refine (value_AsBool v _).mono ?_; rintro e w1 ⟨rfl, hb'⟩; obtain ⟨l2, q2, rfl⟩ := more_of_below hb'; clear hb'))
            go_roundw
            case rel => exact ⟨j + 1, by omega, by go_num, by rw [HST.out]; rfl, HZ.out, (by repeat (first | with_reducible exact Below.refl _ _ | with_reducible assumption | with_reducible refine below_more' ?_ (by go_size) | with_reducible refine bel_alloc ?_ _ (by go_size) | with_reducible refine Below.drew ?_ | with_reducible refine Below.setCell ?_ (by go_size) _ | with_reducible refine below_drewN ?_ _))⟩
            case measure => simp [intOf]; omega
          · rw [hb] at hst
            have HST := Lib.hid hst
            clear hz hc hv hst
            go_wp2_with (first | (go_at_call 115; refine (value_AsBool v _).mono ?_; rintro e w1 ⟨rfl, hb'⟩; obtain ⟨l2, q2, rfl⟩ := more_of_below hb'; clear hb'))
            go_roundw
            case rel => exact ⟨j + 1, by omega, by go_num, by rw [HST.out]; rfl, HZ.out, (by repeat (first | with_reducible exact Below.refl _ _ | with_reducible assumption | with_reducible refine below_more' ?_ (by go_size) | with_reducible refine bel_alloc ?_ _ (by go_size) | with_reducible refine Below.drew ?_ | with_reducible refine Below.setCell ?_ (by go_size) _ | with_reducible refine below_drewN ?_ _))⟩
            case measure => simp [intOf]; omega
        · have hc' : ((asBoolG v).2 != 0) = true := by simp [hc]
          have E := Lib.hid (show truthsG fy vs = errG (asBoolG v).2 by unfold truthsG; rw [hF0.out, find_first (p := fun v => (asBoolG v).2 != 0) hv hc' (fun i u hi hu => hz i u hi hu)])
          clear hz hc hv hst
          go_wp2_with (first | (go_at_call 115; refine (value_AsBool v _).mono ?_; rintro e w1 ⟨rfl, hb'⟩; obtain ⟨l2, q2, rfl⟩ := more_of_below hb'; clear hb') | (go_at_call 22; refine (value_Err _ _).mono ?_; rintro e w1 ⟨rfl, hb'⟩; obtain ⟨l3, q3, rfl⟩ := more_of_below hb'; clear hb'))
          go_returns
          exact ⟨by rw [E.out], (by repeat (first | with_reducible exact Below.refl _ _ | with_reducible assumption | with_reducible refine below_more' ?_ (by go_size) | with_reducible refine bel_alloc ?_ _ (by go_size) | with_reducible refine Below.drew ?_ | with_reducible refine Below.setCell ?_ (by go_size) _ | with_reducible refine below_drewN ?_ _))⟩
      · obtain rfl : j = n := by omega
        have hcj' : cnt j ≤ j := HCL.out j
        have E := Lib.hid (show truthsG fy vs = truthG (fy (cnt j) j) by unfold truthsG; rw [hF0.out, find_no (p := fun v => (asBoolG v).2 != 0) (fun i u hu => hz i u (by have := (List.getElem?_eq_some_iff.1 hu).1; omega) hu), HCN.out, hn])
        clear hz
        go_wp2_with (first | (with_reducible refine Calls.mono (HF.out (cnt j) j _ hcj' hm) ?_; rintro e w2 ⟨rfl, rfl⟩) | (go_at_call 116; refine (value_Truth _ _).mono ?_; rintro e w1 ⟨rfl, hb'⟩; obtain ⟨l3, q3, rfl⟩ := more_of_below hb'; clear hb'))
        go_returns
        exact ⟨by rw [E.out], (by repeat (first | with_reducible exact Below.refl _ _ | with_reducible assumption | with_reducible refine below_more' ?_ (by go_size) | with_reducible refine bel_alloc ?_ _ (by go_size) | with_reducible refine Below.drew ?_ | with_reducible refine Below.setCell ?_ (by go_size) _ | with_reducible refine below_drewN ?_ _))⟩

def fyAnd (a b : Nat) : Bool := (a : Int) == (b : Int)
def fyOr (a _ : Nat) : Bool := decide (0 < a)
def fyXor (a _ : Nat) : Bool := (a : Int).tmod 2 == 1
def fyNot (a _ : Nat) : Bool := (a : Int) == 0
theorem own1_ok (a b : Nat) (w : World) (h : a ≤ b) (hb : b ≤ 1000000000000) : Calls Tryz.prog 76 #[.int .i64 a, .int .i64 b] w fun e w' => e = .returned (.bool (fyAnd a b)) ∧ w = w' := by
  unfold fyAnd
  go_enter Tryz.func76, Tryz.ntmps76
  go_wp2
  go_ret
  exact ⟨rfl, rfl⟩
theorem own2_ok (a b : Nat) (w : World) (h : a ≤ b) (hb : b ≤ 1000000000000) : Calls Tryz.prog 77 #[.int .i64 a, .int .i64 b] w fun e w' => e = .returned (.bool (fyOr a b)) ∧ w = w' := by
  unfold fyOr
  go_enter Tryz.func77, Tryz.ntmps77
  go_wp2
  go_ret
  exact ⟨rfl, rfl⟩
theorem own4_ok (a b : Nat) (w : World) (h : a ≤ b) (hb : b ≤ 1000000000000) : Calls Tryz.prog 79 #[.int .i64 a, .int .i64 b] w fun e w' => e = .returned (.bool (fyNot a b)) ∧ w = w' := by
  unfold fyNot
  go_enter Tryz.func79, Tryz.ntmps79
  go_wp2
  go_ret
  exact ⟨rfl, rfl⟩
end Go.Proofs.YtpcihefhagipmaaGreatDoor
