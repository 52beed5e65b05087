/-
  Parts of a proof: TruthF, TruthL, OwnDo.
-/
import Derived.Test.YtegbhdeaicgpkaaGreatDoorJ11
import Derived.Test.YtegbhdeaicgpkaaGreatDoorJ04
import Derived.Test.YtegbhdeaicgpkaaGreatDoorJ13
set_option linter.all false
namespace Go.Proofs.YtegbhdeaicgpkaaGreatDoor
open Go Go.RowKit
theorem truths_asks (v : V) (w : World) : Calls Tryz.prog 253 #[(Value.agg #[Value.int .i64 v.tag, Value.int .i64 v.num, Value.string v.str, Value.bool v.is, Value.int .i64 v.code])] w fun e w' => e = .returned (.bool (v.tag == 4)) ∧ Below w.heap.size w w' := by
  go_enter Tryz.func253, Tryz.ntmps253
  go_wp2
  go_ret
  exact ⟨rfl, (by (with_reducible repeat' (first | exact .refl _ _ | assumption | refine bmP ?_ ?_ | refine baP ?_ _ ?_ | refine .drew ?_ | refine .setCell ?_ ?_ _ | refine bdP ?_ _)) <;> go_size)⟩
def IdxF (vs : List V) (r : Int) : Prop := (∃ (k : Nat) (v : V), r = k ∧ vs[k]? = some v ∧ v.tag = 4 ∧ ∀ j u, j < k → vs[j]? = some u → u.tag ≠ 4) ∨ (r = -1 ∧ ∀ (j : Nat) (u : V), vs[j]? = some u → u.tag ≠ 4)
set_option maxRecDepth 100000 in
theorem index_fault (vs : List V) (g n c : Nat) (w : World) (hn : vs.length = n) (hm : n ≤ 1000000000000) (hl : g < w.heap.size) (h : Held w g vs) :
    Calls Tryz.prog 252 #[.slice (some ⟨g, 0, none⟩) n c, .func (.func 253) #[] #[]] w fun e w' => (∃ r, e = .returned (.int .i64 r) ∧ IdxF vs r) ∧ Below w.heap.size w w' := by
  have H := Lib.hid h
  clear h
  go_enter Tryz.func252, Tryz.ntmps252
  go_wp2
  go_loopw [8] (fun t wr => ∃ k : Nat, k ≤ n ∧ t = .int .i64 k ∧ (∀ j u, j < k → vs[j]? = some u → u.tag ≠ 4) ∧ Below w.heap.size w wr) (fun t _ => n - (intOf t).toNat)
  case atStart => exact ⟨0, Nat.zero_le _, rfl, fun j u hj => by omega, Below.refl _ _⟩
  case round =>
    obtain ⟨k, hk, rfl, hno, hB⟩ := hrel
    by_cases hlt : k < n
    · obtain ⟨v, hv⟩ : ∃ v, vs[k]? = some v := ⟨_, List.getElem?_eq_getElem (show k < vs.length by omega)⟩
      obtain ⟨v0, v1, v2, v3, v4⟩ := (H.out.keeps (keeps_below hB)).at k v hv _ _ _ _ _ rfl rfl rfl rfl rfl
      have HV := Lib.hid hv
      have HN := Lib.hid hno
      have hB' := Lib.hid hB
      have hs := hB.size
      clear hv hno hB
      by_cases ht : v.tag = 4
      · have ht' : (v.tag == 4) = true := by simp [ht]
        have HT := Lib.hid ht
        clear ht
        go_wp2_with (first | (go_at_call 253; refine (truths_asks v _).mono ?_; rintro e w1 ⟨rfl, hb⟩; obtain ⟨l, q, rfl⟩ := more_of_below hb; clear hb))
        go_ret
        exact ⟨⟨_, rfl, .inl ⟨k, v, rfl, HV.out, HT.out, HN.out⟩⟩, hB'.out.trans ((show Below wr.heap.size wr _ from (by (with_reducible repeat' (first | exact .refl _ _ | assumption | refine bmP ?_ ?_ | refine baP ?_ _ ?_ | refine .drew ?_ | refine .setCell ?_ ?_ _ | refine bdP ?_ _)) <;> go_size)).mono hs)⟩
      · have ht' : (v.tag == 4) = false := by simp [ht]
        have HT := Lib.hid ht
        clear ht
        go_wp2_with (first | (go_at_call 253; refine (truths_asks v _).mono ?_; rintro e w1 ⟨rfl, hb⟩; obtain ⟨l, q, rfl⟩ := more_of_below hb; clear hb))
        go_roundw
        case rel =>
          refine ⟨k + 1, by omega, by go_num, fun j u hj hu => ?_, hB'.out.trans ((show Below wr.heap.size wr _ from (by (with_reducible repeat' (first | exact .refl _ _ | assumption | refine bmP ?_ ?_ | refine baP ?_ _ ?_ | refine .drew ?_ | refine .setCell ?_ ?_ _ | refine bdP ?_ _)) <;> go_size)).mono hs)⟩
          by_cases e : j = k
          · subst e
            rw [HV.out] at hu
            cases hu
            exact HT.out
          · exact HN.out j u (by omega) hu
        case measure => simp [intOf]; omega
    · have hno' := Lib.hid hno
      clear hno
      go_wp2
      go_ret
      exact ⟨⟨_, rfl, .inr ⟨rfl, fun j u hu => hno'.out j u (by have := (List.getElem?_eq_some_iff.1 hu).1; omega) hu⟩⟩, hB⟩
def truthsG (fy : Nat → Nat → Bool) (vs : List V) : V := match vs.find? (fun v => v.tag == 4) with
  | some v => v
  | none => match vs.find? (fun v => (asBoolG v).2 != 0) with
    | some v => errG (asBoolG v).2
    | none => truthG (fy (vs.countP fun v => (asBoolG v).1) vs.length)
theorem find_first {p : V → Bool} {vs : List V} {k : Nat} {v : V} (hv : vs[k]? = some v) (hp : p v = true) (hno : ∀ j u, j < k → vs[j]? = some u → p u = false) : vs.find? p = some v := by
  induction vs generalizing k with
  | nil => simp at hv
  | cons x xs ih =>
    cases k with
    | zero => simp at hv; subst hv; simp [hp]
    | succ k =>
      have h0 := hno 0 x (by omega) rfl
      rw [List.find?_cons, h0]
      exact ih (by simpa using hv) (fun j u hj hu => hno (j + 1) u (by omega) (by simpa using hu))
theorem find_noF {p : V → Bool} {vs : List V} (hno : ∀ (j : Nat) u, vs[j]? = some u → p u = false) : vs.find? p = none := by
  rw [List.find?_eq_none]
  intro x hx
  obtain ⟨j, hj⟩ := List.mem_iff_getElem?.1 hx
  rw [hno j x hj]
  simp
theorem count_take {p : V → Bool} {vs : List V} {k : Nat} {v : V} (hv : vs[k]? = some v) : (vs.take (k + 1)).countP p = (vs.take k).countP p + if p v then 1 else 0 := by
  rw [take_one hv, List.countP_append]
  simp [List.countP_cons]
theorem fault_cases (vs : List V) : (∃ (k : Nat) (v : V), vs[k]? = some v ∧ v.tag = 4 ∧ ∀ j u, j < k → vs[j]? = some u → u.tag ≠ 4) ∨ ∀ (j : Nat) (u : V), vs[j]? = some u → u.tag ≠ 4 := by
  induction vs with
  | nil => exact .inr fun j u h => by simp at h
  | cons x xs ih =>
    by_cases hx : x.tag = 4
    · exact .inl ⟨0, x, rfl, hx, fun j u hj => by omega⟩
    · rcases ih with ⟨k, v, hv, ht, hno⟩ | hno
      · refine .inl ⟨k + 1, v, by simpa using hv, ht, fun j u hj hu => ?_⟩
        cases j with
        | zero => simp at hu; subst hu; exact hx
        | succ j => exact hno j u (by omega) (by simpa using hu)
      · refine .inr fun j u hu => ?_
        cases j with
        | zero => simp at hu; subst hu; exact hx
        | succ j => exact hno j u (by simpa using hu)
theorem idx_some {vs : List V} {r : Int} (h : IdxF vs r) {k : Nat} {v : V} (hv : vs[k]? = some v) (ht : v.tag = 4) (hno : ∀ j u, j < k → vs[j]? = some u → u.tag ≠ 4) : r = k := by
  rcases h with ⟨k', v', rfl, hv', ht', hno'⟩ | ⟨_, hn⟩
  · rcases Nat.lt_trichotomy k k' with h | h | h
    · exact absurd ht (hno' k v h hv)
    · rw [h]
    · exact absurd ht' (hno k' v' h hv')
  · exact absurd ht (hn k v hv)
theorem idx_none {vs : List V} {r : Int} (h : IdxF vs r) (hno : ∀ (j : Nat) (u : V), vs[j]? = some u → u.tag ≠ 4) : r = -1 := by
  rcases h with ⟨k', v', rfl, hv', ht', hno'⟩ | ⟨e, _⟩
  · exact absurd ht' (hno k' v' hv')
  · exact e
set_option maxRecDepth 100000 in
set_option maxHeartbeats 2000000 in
theorem funcs_truthsV (fk : Nat) (fy : Nat → Nat → Bool) (hk : ∀ (args : Array Value) (w : World), Sem.run Tryz.prog (callFunc fk args) w = .ok (.enter fk args) w)
    (hf : ∀ (a b : Nat) (w : World), a ≤ b → b ≤ 1000000000000 → Calls Tryz.prog fk #[.int .i64 a, .int .i64 b] w fun e w' => e = .returned (.bool (fy a b)) ∧ w = w')
    (vs : List V) (p g n c : Nat) (w : World) (hn : vs.length = n) (hm : n ≤ 1000000000000) (h0 : 0 < n) (hp : w.cell? ⟨p, 0, none⟩ = some (.func (.func fk) #[] #[])) (h : Held w g vs) :
    Calls Tryz.prog 251 #[.slice (some ⟨g, 0, none⟩) n c, .pointer (some ⟨p, 0, none⟩)] w fun e w' => e = .returned (Value.agg #[Value.int .i64 (truthsG fy vs).tag, Value.int .i64 (truthsG fy vs).num, Value.string (truthsG fy vs).str, Value.bool (truthsG fy vs).is, Value.int .i64 (truthsG fy vs).code]) ∧ Below w.heap.size w w' := by
  have H := Lib.hid h
  have hpl := World.block_lt_of_cell? w _ hp
  have hgl : g < w.heap.size := by
    obtain ⟨v, hv⟩ : ∃ v, vs[0]? = some v := ⟨_, List.getElem?_eq_getElem (show 0 < vs.length by omega)⟩
    exact World.block_lt_of_cell? w _ (h.at 0 v hv 0 1 2 3 4 rfl rfl rfl rfl rfl).1
  have HF := Lib.hid hf
  clear h hf
  have hH1 : Held (w.alloc zeroV) g vs := H.out.keeps (by repeat (first | with_reducible exact keeps_refl _ | with_reducible assumption | with_reducible refine keeps_alloc ?_ _ | with_reducible refine keeps_more ?_ _ _ | with_reducible refine keeps_drew ?_ | with_reducible refine keeps_drewN ?_ _))
  unfold zeroV at hH1
  have HH1 := Lib.hid hH1
  clear hH1
  obtain ⟨cnt, hc0, hcS, hcn, hcl⟩ : ∃ cnt : Nat → Nat, cnt 0 = 0 ∧ (∀ j v, vs[j]? = some v → cnt (j + 1) = cnt j + if (asBoolG v).1 then 1 else 0) ∧ cnt n = vs.countP (fun v => (asBoolG v).1) ∧ ∀ j, cnt j ≤ n := by
    refine ⟨fun j => (vs.take j).countP fun v => (asBoolG v).1, rfl, fun j v hv => count_take hv, by simp only; rw [List.take_of_length_le (by omega)], fun j => ?_⟩
    refine Nat.le_trans List.countP_le_length ?_
    rw [List.length_take]
    omega
  have HCS := Lib.hid hcS
  have HCN := Lib.hid hcn
  have HCL := Lib.hid hcl
  clear hcS hcn hcl
  rcases fault_cases vs with ⟨k, v, hv, ht, hno⟩ | hno
  · obtain ⟨v0, v1, v2, v3, v4⟩ := H.out.at k v hv _ _ _ _ _ rfl rfl rfl rfl rfl
    have hkn : k < n := by have := (List.getElem?_eq_some_iff.1 hv).1; omega
    have E := Lib.hid (show truthsG fy vs = v by unfold truthsG; rw [find_first (p := fun v => v.tag == 4) hv (by simp [ht]) (fun j u hj hu => by simp [hno j u hj hu])])
    have HI := Lib.hid (fun r (hr : IdxF vs r) => idx_some hr hv ht hno)
    clear hv ht hno
    go_enter Tryz.func251, Tryz.ntmps251
    go_wp2_with (first | (go_at_call 252; refine (index_fault vs g n c _ hn hm (by simp; omega) HH1.out).mono ?_; rintro e w1 ⟨⟨r, rfl, hr⟩, hb⟩; obtain rfl := HI.out r hr; clear hr; obtain ⟨l, q, rfl⟩ := more_of_below hb; clear hb))
    go_returns
    exact ⟨by rw [E.out], (by (with_reducible repeat' (first | exact .refl _ _ | assumption | refine bmP ?_ ?_ | refine baP ?_ _ ?_ | refine .drew ?_ | refine .setCell ?_ ?_ _ | refine bdP ?_ _)) <;> go_size)⟩
  · have hF0 := Lib.hid (find_noF (p := fun v => v.tag == 4) (vs := vs) (fun j u hu => by simp [hno j u hu]))
    have HI := Lib.hid (fun r (hr : IdxF vs r) => idx_none hr hno)
    clear hno
    go_enter Tryz.func251, Tryz.ntmps251
    go_wp2_with (first | (go_at_call 252; refine (index_fault vs g n c _ hn hm (by simp; omega) HH1.out).mono ?_; rintro e w1 ⟨⟨r, rfl, hr⟩, hb⟩; obtain rfl := HI.out r hr; clear hr; obtain ⟨l, q, rfl⟩ := more_of_below hb; clear hb))
    go_loopw [20, 5] (fun t m wr => ∃ j : Nat, j ≤ n ∧ t = .int .i64 j ∧ m = .int .i64 (cnt j : Nat) ∧ (∀ i u, i < j → vs[i]? = some u → ((asBoolG u).2 != 0) = false) ∧ Below (w.alloc zeroV).heap.size (w.alloc zeroV) wr) (fun t _ _ => n - (intOf t).toNat)
    case atStart => exact ⟨0, Nat.zero_le _, rfl, by rw [hc0]; rfl, fun i u hi => by omega, below_more (Nat.le_refl _)⟩
    case round =>
      obtain ⟨j, hj, rfl, rfl, hz, hB⟩ := hrel
      obtain ⟨l1, q1, rfl⟩ := more_of_below hB
      clear hB
      unfold zeroV at *
      by_cases hlt : j < n
      · obtain ⟨v, hv⟩ : ∃ v, vs[j]? = some v := ⟨_, List.getElem?_eq_getElem (show j < vs.length by omega)⟩
        obtain ⟨v0, v1, v2, v3, v4⟩ := H.out.at j v hv _ _ _ _ _ rfl rfl rfl rfl rfl
        have hcj := Lib.hid (HCL.out j)
        have hcj' : cnt j ≤ n := HCL.out j
        have hst := HCS.out j v hv
        by_cases hc : (asBoolG v).2 = 0
        · have hc' : ((asBoolG v).2 != 0) = false := by simp [hc]
          have HZ := Lib.hid (show ∀ i u, i < j + 1 → vs[i]? = some u → ((asBoolG u).2 != 0) = false from fun i u hi hu => by
            by_cases e : i = j
            · subst e; rw [hv] at hu; cases hu; exact hc'
            · exact hz i u (by omega) hu)
          cases hb : (asBoolG v).1
          · rw [hb] at hst
            have HST := Lib.hid hst
            clear hz hc hv hst
            go_wp2_with (first | (go_at_call 250; refine (value_AsBool v _).mono ?_; rintro e w1 ⟨rfl, hb'⟩; obtain ⟨l2, q2, rfl⟩ := more_of_below hb'; clear hb'))
            go_roundw
            case rel => exact ⟨j + 1, by omega, by go_num, by rw [HST.out]; rfl, HZ.out, (by (with_reducible repeat' (first | exact .refl _ _ | assumption | refine bmP ?_ ?_ | refine baP ?_ _ ?_ | refine .drew ?_ | refine .setCell ?_ ?_ _ | refine bdP ?_ _)) <;> go_size)⟩
            case measure => simp [intOf]; omega
          · rw [hb] at hst
            have HST := Lib.hid hst
            clear hz hc hv hst
            go_wp2_with (first | (go_at_call 250; refine (value_AsBool v _).mono ?_; rintro e w1 ⟨rfl, hb'⟩; obtain ⟨l2, q2, rfl⟩ := more_of_below hb'; clear hb'))
            go_roundw
            case rel => exact ⟨j + 1, by omega, by go_num, by rw [HST.out]; rfl, HZ.out, (by (with_reducible repeat' (first | exact .refl _ _ | assumption | refine bmP ?_ ?_ | refine baP ?_ _ ?_ | refine .drew ?_ | refine .setCell ?_ ?_ _ | refine bdP ?_ _)) <;> go_size)⟩
            case measure => simp [intOf]; omega
        · have hc' : ((asBoolG v).2 != 0) = true := by simp [hc]
          have E := Lib.hid (show truthsG fy vs = errG (asBoolG v).2 by unfold truthsG; rw [hF0.out, find_first (p := fun v => (asBoolG v).2 != 0) hv hc' (fun i u hi hu => hz i u hi hu)])
          clear hz hc hv hst
          go_wp2_with (first | (go_at_call 250; refine (value_AsBool v _).mono ?_; rintro e w1 ⟨rfl, hb'⟩; obtain ⟨l2, q2, rfl⟩ := more_of_below hb'; clear hb') | (go_at_call 27; refine (value_Err _ _).mono ?_; rintro e w1 ⟨rfl, hb'⟩; obtain ⟨l3, q3, rfl⟩ := more_of_below hb'; clear hb'))
          go_returns
          exact ⟨by rw [E.out], (by (with_reducible repeat' (first | exact .refl _ _ | assumption | refine bmP ?_ ?_ | refine baP ?_ _ ?_ | refine .drew ?_ | refine .setCell ?_ ?_ _ | refine bdP ?_ _)) <;> go_size)⟩
      · obtain rfl : j = n := by omega
        have hcj' : cnt j ≤ j := HCL.out j
        have E := Lib.hid (show truthsG fy vs = truthG (fy (cnt j) j) by unfold truthsG; rw [hF0.out, find_noF (p := fun v => (asBoolG v).2 != 0) (fun i u hu => hz i u (by have := (List.getElem?_eq_some_iff.1 hu).1; omega) hu), HCN.out, hn])
        clear hz
        go_wp2_with (first | (with_reducible refine Calls.mono (HF.out (cnt j) j _ hcj' hm) ?_; rintro e w2 ⟨rfl, rfl⟩) | (go_at_call 98; refine (value_Truth _ _).mono ?_; rintro e w1 ⟨rfl, hb'⟩; obtain ⟨l3, q3, rfl⟩ := more_of_below hb'; clear hb'))
        go_returns
        exact ⟨by rw [E.out], (by (with_reducible repeat' (first | exact .refl _ _ | assumption | refine bmP ?_ ?_ | refine baP ?_ _ ?_ | refine .drew ?_ | refine .setCell ?_ ?_ _ | refine bdP ?_ _)) <;> go_size)⟩
def fyAnd (a b : Nat) : Bool := (a : Int) == (b : Int)
def fyOr (a _ : Nat) : Bool := decide (0 < a)
def fyXor (a _ : Nat) : Bool := (a : Int).tmod 2 == 1
def fyNot (a _ : Nat) : Bool := (a : Int) == 0
theorem own1_ok (a b : Nat) (w : World) (h : a ≤ b) (hb : b ≤ 1000000000000) : Calls Tryz.prog 208 #[.int .i64 a, .int .i64 b] w fun e w' => e = .returned (.bool (fyAnd a b)) ∧ w = w' := by
  unfold fyAnd
  go_enter Tryz.func208, Tryz.ntmps208
  go_wp2
  go_ret
  exact ⟨rfl, rfl⟩
theorem own2_ok (a b : Nat) (w : World) (h : a ≤ b) (hb : b ≤ 1000000000000) : Calls Tryz.prog 209 #[.int .i64 a, .int .i64 b] w fun e w' => e = .returned (.bool (fyOr a b)) ∧ w = w' := by
  unfold fyOr
  go_enter Tryz.func209, Tryz.ntmps209
  go_wp2
  go_ret
  exact ⟨rfl, rfl⟩
theorem own4_ok (a b : Nat) (w : World) (h : a ≤ b) (hb : b ≤ 1000000000000) : Calls Tryz.prog 211 #[.int .i64 a, .int .i64 b] w fun e w' => e = .returned (.bool (fyNot a b)) ∧ w = w' := by
  unfold fyNot
  go_enter Tryz.func211, Tryz.ntmps211
  go_wp2
  go_ret
  exact ⟨rfl, rfl⟩
end Go.Proofs.YtegbhdeaicgpkaaGreatDoor
namespace Go.Proofs.YtegbhdeaicgpkaaGreatDoor
open Go Go.RowKit
theorem asBool_code {v : V} (h : mayG v = true) (h4 : v.tag ≠ 4) : (asBoolG v).2 = if v.tag = 2 then 4 else 0 := by
  unfold asBoolG asNumG
  simp only [h, h4, if_false, Bool.true_eq_false]
  split
  · rfl
  · split <;> rfl
theorem asBool_truth (b : Bool) : asBoolG (truthG b) = (b, 0) := by cases b <;> decide +kernel
theorem t_fault (fy : Nat → Nat → Bool) {v : V} (vs : List V) (h : v.tag = 4) : truthsG fy (v :: vs) = v := by simp [truthsG, h]
theorem t_code1 (fy : Nat → Nat → Bool) {v : V} (h : v.tag ≠ 4) (hc : (asBoolG v).2 ≠ 0) : truthsG fy [v] = errG (asBoolG v).2 := by simp [truthsG, h, hc]
theorem t_one (fy : Nat → Nat → Bool) {v : V} (h : v.tag ≠ 4) (hc : (asBoolG v).2 = 0) : truthsG fy [v] = truthG (fy (if (asBoolG v).1 then 1 else 0) 1) := by simp [truthsG, h, hc, List.countP_cons]
theorem t_fault2 (fy : Nat → Nat → Bool) {u v : V} (hu : u.tag ≠ 4) (h : v.tag = 4) : truthsG fy [u, v] = v := by simp [truthsG, h, hu]
theorem t_code2 (fy : Nat → Nat → Bool) {u v : V} (hu : u.tag ≠ 4) (hv : v.tag ≠ 4) (hc : (asBoolG u).2 ≠ 0) : truthsG fy [u, v] = errG (asBoolG u).2 := by simp [truthsG, hu, hv, hc]
theorem t_code2' (fy : Nat → Nat → Bool) {u v : V} (hu : u.tag ≠ 4) (hv : v.tag ≠ 4) (hu0 : (asBoolG u).2 = 0) (hc : (asBoolG v).2 ≠ 0) : truthsG fy [u, v] = errG (asBoolG v).2 := by simp [truthsG, hu, hv, hu0, hc]
theorem t_two (fy : Nat → Nat → Bool) {u v : V} (hu : u.tag ≠ 4) (hv : v.tag ≠ 4) (hu0 : (asBoolG u).2 = 0) (hv0 : (asBoolG v).2 = 0) : truthsG fy [u, v] = truthG (fy ((if (asBoolG v).1 then 1 else 0) + if (asBoolG u).1 then 1 else 0) 2) := by simp [truthsG, hu, hv, hu0, hv0, List.countP_cons]
theorem tag_truth (b : Bool) : (truthG b).tag ≠ 4 := by show (3 : Int) ≠ 4; decide
theorem tag_err (c : Int) : (errG c).tag = 4 := rfl
theorem law_not (x y : V) (hx : mayG x = true) (hy : mayG y = true) (hm : ¬ (x.tag = 2 ∧ y.tag = 4)) : truthsG fyNot [truthsG fyAnd [x, y]] = truthsG fyOr [truthsG fyNot [x], truthsG fyNot [y]] := by
  by_cases hx4 : x.tag = 4
  · rw [t_fault fyAnd [y] hx4, t_fault fyNot [] hx4, t_fault fyOr _ hx4]
  · have cx := asBool_code hx hx4
    by_cases hy4 : y.tag = 4
    · have hx2 : x.tag ≠ 2 := fun h => hm ⟨h, hy4⟩
      rw [if_neg hx2] at cx
      rw [t_fault2 fyAnd hx4 hy4, t_fault fyNot [] hy4, t_one fyNot hx4 cx, t_fault2 fyOr (tag_truth _) hy4]
    · have cy := asBool_code hy hy4
      by_cases hx2 : x.tag = 2
      · rw [if_pos hx2] at cx
        have hc : (asBoolG x).2 ≠ 0 := by rw [cx]; decide
        rw [t_code2 fyAnd hx4 hy4 hc, t_fault fyNot [] (tag_err _), t_code1 fyNot hx4 hc, t_fault fyOr _ (tag_err _)]
      · rw [if_neg hx2] at cx
        by_cases hy2 : y.tag = 2
        · rw [if_pos hy2] at cy
          have hc : (asBoolG y).2 ≠ 0 := by rw [cy]; decide
          rw [t_code2' fyAnd hx4 hy4 cx hc, t_fault fyNot [] (tag_err _), t_one fyNot hx4 cx, t_code1 fyNot hy4 hc, t_fault2 fyOr (tag_truth _) (tag_err _)]
        · rw [if_neg hy2] at cy
          rw [t_two fyAnd hx4 hy4 cx cy, t_one fyNot hx4 cx, t_one fyNot hy4 cy]
          have h0 : ∀ b, (asBoolG (truthG b)).2 = 0 := fun b => by rw [asBool_truth]
          rw [t_one fyNot (tag_truth _) (h0 _), t_two fyOr (tag_truth _) (tag_truth _) (h0 _) (h0 _)]
          simp only [asBool_truth]
          cases (asBoolG x).1 <;> cases (asBoolG y).1 <;> decide +kernel
theorem law_iferr (x y : V) : iferrG [x, y] = choiceG [truthG (x.tag == 4), y, x] := by
  by_cases h : x.tag = 4 <;> simp [iferrG, choiceG, asBool_truth, h]
theorem law_choose (x y : V) : chooseG [⟨1, 20000, ⟨#[]⟩, false, 0⟩, x, y] = y := by
  have h1 : integerG ⟨1, 20000, ⟨#[]⟩, false, 0⟩ = (2, 0) := by decide +kernel
  simp [chooseG, h1]
theorem may_fault {x : V} (h : mayG x = true) (h4 : x.tag = 4) : x = ⟨4, 0, ⟨#[]⟩, false, x.code⟩ ∧ 1 ≤ x.code ∧ x.code ≤ 8 := by
  unfold mayG at h
  simp only [Bool.and_eq_true] at h
  obtain ⟨⟨_, h2⟩, h3⟩ := h
  have e := of_decide_eq_true (show decide (bareG x = ⟨x.tag, 0, ⟨#[]⟩, false, 0⟩) = true from h2)
  obtain ⟨a, b, s, c, d⟩ := x
  simp only at h4
  subst h4
  simp [bareG] at e
  obtain ⟨rfl, rfl, rfl⟩ := e
  simp [isCode] at h3
  exact ⟨rfl, h3.1, h3.2⟩
theorem law_errno (x : V) (h : mayG x = true) (h4 : x.tag = 4) (hc : x.code ≠ 1) : faultG (errnoG x) = x := by
  obtain ⟨e, h1, h8⟩ := may_fault h h4
  obtain ⟨a, b, s, c, d⟩ := x
  simp only at h4 hc h1 h8
  have hd : d = 2 ∨ d = 3 ∨ d = 4 ∨ d = 5 ∨ d = 6 ∨ d = 7 ∨ d = 8 := by omega
  rw [e]
  simp only
  clear e h h1 h8 hc
  rcases hd with rfl | rfl | rfl | rfl | rfl | rfl | rfl <;> decide +kernel
theorem may_tag {x : V} (h : mayG x = true) : 0 ≤ x.tag ∧ x.tag ≤ 4 := by
  unfold mayG at h
  simp only [Bool.and_eq_true, decide_eq_true_eq] at h
  exact h.1.1
theorem may_truth (b : Bool) : mayG (truthG b) = true := by cases b <;> decide +kernel
theorem may_err (c : Int) : mayG (errG c) = true := by
  unfold errG errC isCode
  split
  · rename_i h
    simp only [Bool.and_eq_true, decide_eq_true_eq] at h
    have hd : c = 1 ∨ c = 2 ∨ c = 3 ∨ c = 4 ∨ c = 5 ∨ c = 6 ∨ c = 7 ∨ c = 8 := by omega
    rcases hd with rfl | rfl | rfl | rfl | rfl | rfl | rfl | rfl <;> decide +kernel
  · decide +kernel
theorem may_truths (fy : Nat → Nat → Bool) (vs : List V) (h : vs.all mayG = true) : mayG (truthsG fy vs) = true := by
  unfold truthsG
  cases hf : vs.find? (fun v => v.tag == 4) with
  | some v => exact List.all_eq_true.1 h v (List.mem_of_find?_eq_some hf)
  | none =>
    cases hc : vs.find? (fun v => (asBoolG v).2 != 0) with
    | some v => exact may_err _
    | none => exact may_truth _
end Go.Proofs.YtegbhdeaicgpkaaGreatDoor
namespace Go.Proofs.YtegbhdeaicgpkaaGreatDoor
open Go Go.RowKit
def ownDo (s : ByteArray) (vs : List V) : V :=
  if (⟨#[65, 83, 75]⟩ : ByteArray) = s then errG 8 else
  if (⟨#[67, 72, 79, 79, 83, 69]⟩ : ByteArray) = s then chooseG vs else
  if (⟨#[69, 82, 82]⟩ : ByteArray) = s then faultG (vs.getD 0 ⟨0, 0, ⟨#[]⟩, false, 0⟩) else
  if (⟨#[69, 82, 82, 78, 79]⟩ : ByteArray) = s then errnoG (vs.getD 0 ⟨0, 0, ⟨#[]⟩, false, 0⟩) else
  if (⟨#[84, 89, 80, 69]⟩ : ByteArray) = s then typeG (vs.getD 0 ⟨0, 0, ⟨#[]⟩, false, 0⟩) else
  if (⟨#[73, 83, 66, 79, 79, 76]⟩ : ByteArray) = s then truthG ((vs.getD 0 ⟨0, 0, ⟨#[]⟩, false, 0⟩).tag == 3) else
  if (⟨#[73, 83, 84, 69, 88, 84]⟩ : ByteArray) = s then truthG ((vs.getD 0 ⟨0, 0, ⟨#[]⟩, false, 0⟩).tag == 2) else
  if (⟨#[73, 83, 78, 85, 77]⟩ : ByteArray) = s then truthG ((vs.getD 0 ⟨0, 0, ⟨#[]⟩, false, 0⟩).tag == 1) else
  if (⟨#[73, 83, 66, 76, 65, 78, 75]⟩ : ByteArray) = s then truthG ((vs.getD 0 ⟨0, 0, ⟨#[]⟩, false, 0⟩).tag == 0) else
  if (⟨#[73, 83, 69, 82, 82]⟩ : ByteArray) = s then truthG ((vs.getD 0 ⟨0, 0, ⟨#[]⟩, false, 0⟩).tag == 4) else
  if (⟨#[73, 70, 69, 82, 82]⟩ : ByteArray) = s then iferrG vs else
  if (⟨#[78, 79, 84]⟩ : ByteArray) = s then truthsG fyNot vs else
  if (⟨#[88, 79, 82]⟩ : ByteArray) = s then truthsG fyXor vs else
  if (⟨#[79, 82]⟩ : ByteArray) = s then truthsG fyOr vs else
  if (⟨#[65, 78, 68]⟩ : ByteArray) = s then truthsG fyAnd vs else
  if (⟨#[73, 70]⟩ : ByteArray) = s then choiceG vs else
  errG 8
theorem own3_ok (a b : Nat) (w : World) (h : a ≤ b) (hb : b ≤ 1000000000000) : Calls Tryz.prog 210 #[.int .i64 a, .int .i64 b] w fun e w' => e = .returned (.bool (fyXor a b)) ∧ w = w' := by
  go_enter Tryz.func210, Tryz.ntmps210
  go_wp2
  go_ret
  exact ⟨rfl, rfl⟩
set_option maxRecDepth 100000 in
set_option maxHeartbeats 1000000 in
theorem own_do {s : ByteArray} {x y : Int} {d : Doer} (ho : ownTab s = some (x, y, d)) (xs : List Arg) (A : Option Addr) (n c B : Nat) (tx : Int) (w : World) (pd : Nat) (f : Value) (hc : w.cell? ⟨pd, 0, none⟩ = some f) (hD : DoOK w f d) (hr : Reads w B 11 A n (argFlat xs)) (hm : n ≤ 1000000000000)
    (hbt : between x y n = true) (h64 : ∀ v ∈ xs.map Arg.val, -9223372036854775808 ≤ v.num ∧ v.num ≤ 9223372036854775807) (hv : ∀ v ∈ xs.map Arg.val, mayG v = true) :
    Calls Tryz.prog 249 #[.slice A n c, .int .i64 tx, .pointer (some ⟨pd, 0, none⟩)] w fun e w' => e = .returned (Value.agg #[Value.int .i64 (ownDo s (xs.map Arg.val)).tag, Value.int .i64 (ownDo s (xs.map Arg.val)).num, Value.string (ownDo s (xs.map Arg.val)).str, Value.bool (ownDo s (xs.map Arg.val)).is, Value.int .i64 (ownDo s (xs.map Arg.val)).code]) ∧ Below w.heap.size w w' := by
  have hlen : xs.length = n := by
    have := hr.1
    rw [argFlat_length] at this
    omega
  have h0 : 0 < n := by
    have hx := ownTab_low ho
    simp only [between, Bool.and_eq_true, decide_eq_true_eq] at hbt
    omega
  have hg0 : ∀ k, (∀ (args : Array Value) (w : World), Sem.run Tryz.prog (callFunc k args) w = .ok (.enter k args) w) → f = .func (.func k) #[] #[] → ∀ r : V, (∀ w' g c', Held w' g (xs.map Arg.val) → Calls Tryz.prog k #[.slice (some ⟨g, 0, none⟩) n c'] w' fun e w'' => e = .returned (Value.agg #[Value.int .i64 r.tag, Value.int .i64 r.num, Value.string r.str, Value.bool r.is, Value.int .i64 r.code]) ∧ Below w'.heap.size w' w'') →
      Calls Tryz.prog 249 #[.slice A n c, .int .i64 tx, .pointer (some ⟨pd, 0, none⟩)] w fun e w' => e = .returned (Value.agg #[Value.int .i64 r.tag, Value.int .i64 r.num, Value.string r.str, Value.bool r.is, Value.int .i64 r.code]) ∧ Below w.heap.size w w' := fun k hk hf r hd => by
    subst hf
    exact gather0 pd k hk tx xs A n c B w hc hr hm h0 r fun w' g c' _ hH => hd w' g c' hH
  have hg1 : ∀ k p, (∀ (args : Array Value) (w : World), Sem.run Tryz.prog (callFunc k args) w = .ok (.enter k args) w) → f = .func (.func k) #[] #[.pointer (some ⟨p, 0, none⟩)] → ∀ r : V, (∀ w' g c', Below w.heap.size w w' → Held w' g (xs.map Arg.val) → Calls Tryz.prog k #[.slice (some ⟨g, 0, none⟩) n c', .pointer (some ⟨p, 0, none⟩)] w' fun e w'' => e = .returned (Value.agg #[Value.int .i64 r.tag, Value.int .i64 r.num, Value.string r.str, Value.bool r.is, Value.int .i64 r.code]) ∧ Below w'.heap.size w' w'') →
      Calls Tryz.prog 249 #[.slice A n c, .int .i64 tx, .pointer (some ⟨pd, 0, none⟩)] w fun e w' => e = .returned (Value.agg #[Value.int .i64 r.tag, Value.int .i64 r.num, Value.string r.str, Value.bool r.is, Value.int .i64 r.code]) ∧ Below w.heap.size w w' := fun k p hk hf r hd => by
    subst hf
    exact gather1 pd k p hk tx xs A n c B w hc hr hm h0 r fun w' g c' hb' hH => hd w' g c' hb' hH
  obtain ⟨vs, hvs⟩ : ∃ vs, xs.map Arg.val = vs := ⟨_, rfl⟩
  have hvl : vs.length = n := by rw [← hvs, List.length_map, hlen]
  rw [hvs] at h64 hv hg0 hg1 ⊢
  simp only [between, Bool.and_eq_true, decide_eq_true_eq] at hbt
  clear hr hc hvs hlen
  unfold ownTab at ho
  unfold ownDo
  by_cases eASK : (⟨#[65, 83, 75]⟩ : ByteArray) = s
  · rw [if_pos eASK] at ho ⊢
    cases ho
    obtain rfl : n = 1 := by omega
    match vs, hvl, h64, hv with
    | [v], _, h64, hv =>
      have h6 := h64 v (by simp)
      have hm1 := hv v (by simp)
      exact hg0 218 (fun _ _ => rfl) hD _ fun w' g c' hH => funcs_ask v g c' w'
  rw [if_neg eASK] at ho ⊢
  by_cases eCHOOSE : (⟨#[67, 72, 79, 79, 83, 69]⟩ : ByteArray) = s
  · rw [if_pos eCHOOSE] at ho ⊢
    cases ho
    match vs, hvl, h64 with
    | [], hvl, _ => exact absurd (show (0 : Nat) = n from hvl) (by omega)
    | v :: vs, hvl, h64 =>
      have h6 := h64 v (by simp)
      obtain rfl : n = vs.length + 1 := by rw [← hvl]; rfl
      exact hg0 217 (fun _ _ => rfl) hD _ fun w' g c' hH => funcs_choose v vs h6.1 h6.2 g c' (by omega) w' hH
  rw [if_neg eCHOOSE] at ho ⊢
  by_cases eERR : (⟨#[69, 82, 82]⟩ : ByteArray) = s
  · rw [if_pos eERR] at ho ⊢
    cases ho
    obtain rfl : n = 1 := by omega
    match vs, hvl, h64, hv with
    | [v], _, h64, hv =>
      have h6 := h64 v (by simp)
      have hm1 := hv v (by simp)
      exact hg0 216 (fun _ _ => rfl) hD _ fun w' g c' hH => funcs_fault v h6.1 h6.2 g c' w' hH
  rw [if_neg eERR] at ho ⊢
  by_cases eERRNO : (⟨#[69, 82, 82, 78, 79]⟩ : ByteArray) = s
  · rw [if_pos eERRNO] at ho ⊢
    cases ho
    obtain rfl : n = 1 := by omega
    match vs, hvl, h64, hv with
    | [v], _, h64, hv =>
      have h6 := h64 v (by simp)
      have hm1 := hv v (by simp)
      exact hg0 215 (fun _ _ => rfl) hD _ fun w' g c' hH => funcs_errno v (fun h => by have := may_fault hm1 h; simp [isCode]; omega) g c' w' hH
  rw [if_neg eERRNO] at ho ⊢
  by_cases eTYPE : (⟨#[84, 89, 80, 69]⟩ : ByteArray) = s
  · rw [if_pos eTYPE] at ho ⊢
    cases ho
    obtain rfl : n = 1 := by omega
    match vs, hvl, h64, hv with
    | [v], _, h64, hv =>
      have h6 := h64 v (by simp)
      have hm1 := hv v (by simp)
      exact hg0 214 (fun _ _ => rfl) hD _ fun w' g c' hH => funcs_type v (may_tag hm1).1 (may_tag hm1).2 g c' w' hH
  rw [if_neg eTYPE] at ho ⊢
  by_cases eISBOOL : (⟨#[73, 83, 66, 79, 79, 76]⟩ : ByteArray) = s
  · rw [if_pos eISBOOL] at ho ⊢
    cases ho
    obtain ⟨p, hf, hp, _⟩ := hD
    obtain rfl : n = 1 := by omega
    match vs, hvl, h64, hv with
    | [v], _, h64, hv =>
      have h6 := h64 v (by simp)
      have hm1 := hv v (by simp)
      exact hg1 254 p (fun _ _ => rfl) hf _ fun w' g c' hb' hH => funcs_is1 3 v p g c' w' ((keeps_below hb').cell _ _ _ hp) hH
  rw [if_neg eISBOOL] at ho ⊢
  by_cases eISTEXT : (⟨#[73, 83, 84, 69, 88, 84]⟩ : ByteArray) = s
  · rw [if_pos eISTEXT] at ho ⊢
    cases ho
    obtain ⟨p, hf, hp, _⟩ := hD
    obtain rfl : n = 1 := by omega
    match vs, hvl, h64, hv with
    | [v], _, h64, hv =>
      have h6 := h64 v (by simp)
      have hm1 := hv v (by simp)
      exact hg1 254 p (fun _ _ => rfl) hf _ fun w' g c' hb' hH => funcs_is1 2 v p g c' w' ((keeps_below hb').cell _ _ _ hp) hH
  rw [if_neg eISTEXT] at ho ⊢
  by_cases eISNUM : (⟨#[73, 83, 78, 85, 77]⟩ : ByteArray) = s
  · rw [if_pos eISNUM] at ho ⊢
    cases ho
    obtain ⟨p, hf, hp, _⟩ := hD
    obtain rfl : n = 1 := by omega
    match vs, hvl, h64, hv with
    | [v], _, h64, hv =>
      have h6 := h64 v (by simp)
      have hm1 := hv v (by simp)
      exact hg1 254 p (fun _ _ => rfl) hf _ fun w' g c' hb' hH => funcs_is1 1 v p g c' w' ((keeps_below hb').cell _ _ _ hp) hH
  rw [if_neg eISNUM] at ho ⊢
  by_cases eISBLANK : (⟨#[73, 83, 66, 76, 65, 78, 75]⟩ : ByteArray) = s
  · rw [if_pos eISBLANK] at ho ⊢
    cases ho
    obtain ⟨p, hf, hp, _⟩ := hD
    obtain rfl : n = 1 := by omega
    match vs, hvl, h64, hv with
    | [v], _, h64, hv =>
      have h6 := h64 v (by simp)
      have hm1 := hv v (by simp)
      exact hg1 254 p (fun _ _ => rfl) hf _ fun w' g c' hb' hH => funcs_is1 0 v p g c' w' ((keeps_below hb').cell _ _ _ hp) hH
  rw [if_neg eISBLANK] at ho ⊢
  by_cases eISERR : (⟨#[73, 83, 69, 82, 82]⟩ : ByteArray) = s
  · rw [if_pos eISERR] at ho ⊢
    cases ho
    obtain ⟨p, hf, hp, _⟩ := hD
    obtain rfl : n = 1 := by omega
    match vs, hvl, h64, hv with
    | [v], _, h64, hv =>
      have h6 := h64 v (by simp)
      have hm1 := hv v (by simp)
      exact hg1 254 p (fun _ _ => rfl) hf _ fun w' g c' hb' hH => funcs_is1 4 v p g c' w' ((keeps_below hb').cell _ _ _ hp) hH
  rw [if_neg eISERR] at ho ⊢
  by_cases eIFERR : (⟨#[73, 70, 69, 82, 82]⟩ : ByteArray) = s
  · rw [if_pos eIFERR] at ho ⊢
    cases ho
    obtain rfl : n = 2 := by omega
    match vs, hvl with
    | [u, v], _ => exact hg0 212 (fun _ _ => rfl) hD _ fun w' g c' hH => funcs_iferr u v g c' w' hH
  rw [if_neg eIFERR] at ho ⊢
  by_cases eNOT : (⟨#[78, 79, 84]⟩ : ByteArray) = s
  · rw [if_pos eNOT] at ho ⊢
    cases ho
    obtain ⟨p, hf, hp⟩ := hD
    exact hg1 251 p (fun _ _ => rfl) hf _ fun w' g c' hb' hH => funcs_truthsV 211 fyNot (fun _ _ => rfl) (fun a b w h hb => own4_ok a b w h hb) vs p g n c' w' hvl hm h0 ((keeps_below hb').cell _ _ _ hp) hH
  rw [if_neg eNOT] at ho ⊢
  by_cases eXOR : (⟨#[88, 79, 82]⟩ : ByteArray) = s
  · rw [if_pos eXOR] at ho ⊢
    cases ho
    obtain ⟨p, hf, hp⟩ := hD
    exact hg1 251 p (fun _ _ => rfl) hf _ fun w' g c' hb' hH => funcs_truthsV 210 fyXor (fun _ _ => rfl) (fun a b w h hb => own3_ok a b w h hb) vs p g n c' w' hvl hm h0 ((keeps_below hb').cell _ _ _ hp) hH
  rw [if_neg eXOR] at ho ⊢
  by_cases eOR : (⟨#[79, 82]⟩ : ByteArray) = s
  · rw [if_pos eOR] at ho ⊢
    cases ho
    obtain ⟨p, hf, hp⟩ := hD
    exact hg1 251 p (fun _ _ => rfl) hf _ fun w' g c' hb' hH => funcs_truthsV 209 fyOr (fun _ _ => rfl) (fun a b w h hb => own2_ok a b w h hb) vs p g n c' w' hvl hm h0 ((keeps_below hb').cell _ _ _ hp) hH
  rw [if_neg eOR] at ho ⊢
  by_cases eAND : (⟨#[65, 78, 68]⟩ : ByteArray) = s
  · rw [if_pos eAND] at ho ⊢
    cases ho
    obtain ⟨p, hf, hp⟩ := hD
    exact hg1 251 p (fun _ _ => rfl) hf _ fun w' g c' hb' hH => funcs_truthsV 208 fyAnd (fun _ _ => rfl) (fun a b w h hb => own1_ok a b w h hb) vs p g n c' w' hvl hm h0 ((keeps_below hb').cell _ _ _ hp) hH
  rw [if_neg eAND] at ho ⊢
  by_cases eIF : (⟨#[73, 70]⟩ : ByteArray) = s
  · rw [if_pos eIF] at ho ⊢
    cases ho
    obtain rfl | rfl : n = 2 ∨ n = 3 := by omega
    · match vs, hvl with
      | [u, v], _ => exact hg0 206 (fun _ _ => rfl) hD _ fun w' g c' hH => funcs_choice2 u v g c' w' hH
    · match vs, hvl with
      | [t, u, v], _ => exact hg0 206 (fun _ _ => rfl) hD _ fun w' g c' hH => funcs_choice3 t u v g c' w' hH
  rw [if_neg eIF] at ho ⊢
  cases ho
end Go.Proofs.YtegbhdeaicgpkaaGreatDoor
