/-
  Parts of a proof: NumsJ, NumsK, NumsL.
-/
import Derived.Test.YtegbhdeaicgpkaaGreatDoorJ24
import Derived.Test.YtegbhdeaicgpkaaGreatDoorJ01
import Derived.Deep.RegionHeld3
set_option linter.all false
namespace Go.Proofs.YtegbhdeaicgpkaaGreatDoor
open Go Go.RowKit
def NoZero (xs : List Nat) (k : Nat) : Prop := ∀ j, j < k → xs.getD j 1 ≠ 0
theorem noZero_step {xs : List Nat} {k : Nat} (h : NoZero xs k) (hk : ¬ xs.getD k 0 = 0) : NoZero xs (k + 1) := by
  intro j hj
  by_cases e : j = k
  · subst e
    intro h'
    refine hk ?_
    simp only [List.getD] at h' ⊢
    cases hx : xs[j]? with
    | none => rfl
    | some v => rw [hx] at h'; exact h'
  · exact h j (by omega)
theorem noZero_end {xs : List Nat} {n : Nat} (h : NoZero xs n) (hn : xs.length = n) : xs.contains 0 = false := by
  rw [List.contains_eq_mem]
  simp only [decide_eq_false_iff_not]
  intro hm
  obtain ⟨j, hj⟩ := List.mem_iff_getElem?.1 hm
  have : j < xs.length := (List.getElem?_eq_some_iff.1 hj).1
  exact h j (by omega) (by simp [List.getD, hj])
theorem hasZero_of {xs : List Nat} {k n : Nat} (hk : k < n) (hn : xs.length = n) (h : xs.getD k 0 = 0) : xs.contains 0 = true := by
  rw [List.contains_eq_mem]
  simp only [decide_eq_true_eq]
  simp only [List.getD] at h
  cases hx : xs[k]? with
  | none => rw [List.getElem?_eq_none_iff] at hx; omega
  | some v => rw [hx] at h; simp at h; subst h; exact List.mem_of_getElem? hx
def IdxSaysU (xs : List Nat) (e : Ending) : Prop := ∃ r : Int, e = .returned (.int .i64 r) ∧ (decide (0 ≤ r) = xs.contains 0)
theorem index_words (A : Option Addr) (n c B : Nat) (xs : List Nat) (w : World) (hr : Reads w B 1 A n (U xs)) (hm : n ≤ 9223372036854775807) :
    Calls Tryz.prog 219 #[.slice A n c, .int .u64 0] w fun e w' => IdxSaysU xs e ∧ w = w' := by
  have hlen : xs.length = n := by have := hr.1; simpa [U] using this
  by_cases h0 : n = 0
  · subst h0
    have hx : xs = [] := by simpa using hlen
    subst hx
    clear hr hlen hm
    go_enter Tryz.func219, Tryz.ntmps219
    go_wp2
    refine wp_loop_rounds 1 ?_
    rw [rounds_succ]
    go_wp2
    go_ret
    exact ⟨⟨_, rfl, by decide⟩, rfl⟩
  · obtain ⟨b, off, rfl, _, hc⟩ := hr.2 (by omega)
    have hcell : ∀ k, k < n → w.cell? ⟨b, off + k, none⟩ = some (.int .u64 ((xs.getD k 0 : Nat) : Int)) := fun k hk => hc k _ (by simp [U, List.getD, List.getElem?_eq_getElem (show k < xs.length by omega)])
    have HC := Lib.hid hcell
    have HL := Lib.hid hlen
    clear hc hr hcell hlen h0
    go_enter Tryz.func219, Tryz.ntmps219
    go_wp2
    go_loop [8] (fun t => ∃ k : Nat, k ≤ n ∧ t = .int .i64 k ∧ NoZero xs k) (fun t => n - (intOf t).toNat)
    case atStart => exact ⟨0, Nat.zero_le _, rfl, fun j hj => by omega⟩
    case round =>
      obtain ⟨k, hk, rfl, hno⟩ := hrel
      by_cases hlt : k < n
      · have hcell := HC.out k hlt
        by_cases hv : xs.getD k 0 = 0
        · rw [hv] at hcell
          have hh := Lib.hid (hasZero_of hlt HL.out hv)
          clear hv
          go_wp2
          go_ret
          exact ⟨⟨_, rfl, by rw [hh.out]; simp⟩, rfl⟩
        · have hv' : ¬ ((xs.getD k 0 : Nat) : Int) = 0 := by omega
          have hh := noZero_step hno hv
          obtain ⟨z, hz⟩ : ∃ z, ((xs.getD k 0 : Nat) : Int) = z := ⟨_, rfl⟩
          rw [hz] at hcell hv'
          clear hv hno hz
          go_wp2
          go_round
          case rel => exact ⟨k + 1, by omega, by go_num, hh⟩
          case measure => simp [intOf]; omega
      · have hh := Lib.hid (noZero_end hno (HL.out.trans (by omega)))
        clear hno
        go_wp2
        go_ret
        exact ⟨⟨_, rfl, by rw [hh.out]; decide⟩, rfl⟩
theorem contains_words (A : Option Addr) (n c B : Nat) (xs : List Nat) (w : World) (hr : Reads w B 1 A n (U xs)) (hm : n ≤ 9223372036854775807) :
    Calls Tryz.prog 160 #[.slice A n c, .int .u64 0] w fun e w' => e = .returned (.bool (xs.contains 0)) ∧ w = w' := by
  go_enter Tryz.func160, Tryz.ntmps160
  go_wp2_with fail
  refine (index_words A n c B xs w hr hm).mono ?_
  rintro e w1 ⟨⟨r, rfl, hx⟩, rfl⟩
  have HX := Lib.hid hx
  clear hx hr hm
  go_wp2
  go_ret
  exact ⟨by rw [← HX.out]; rfl, rfl⟩
def gcdX (l : List Int) : V := if allW l then wholeX ((l.map wN).foldl Nat.gcd 0) false else errG 8
theorem gcd_word {a b : Nat} (ha : a < 18446744073709551616) (hb : b < 18446744073709551616) : Nat.gcd a b < 18446744073709551616 := by
  rcases Nat.eq_zero_or_pos a with h | h
  · subst h; rw [Nat.gcd_zero_left]; exact hb
  · exact Nat.lt_of_le_of_lt (Nat.gcd_le_left b h) ha
theorem wN_word (x : Int) (hx : Is64 x) : wN x < 18446744073709551616 := by
  have := whole_64 x hx
  unfold wN
  omega
set_option maxRecDepth 100000 in
set_option maxHeartbeats 600000 in
theorem nums_gcdOf (l : List Int) (hl : ∀ x ∈ l, In63 x) (hn : l.length ≤ 1000) (g c : Nat) (w : World) (h : AtB w g (I l)) (hg : g < w.heap.size) :
    Calls Tryz.prog 73 #[.slice (some ⟨g, 0, none⟩) l.length c] w fun e w' => e = .returned (Value.agg #[Value.int .i64 (gcdX l).tag, Value.int .i64 (gcdX l).num, Value.string (gcdX l).str, Value.bool (gcdX l).is, Value.int .i64 (gcdX l).code]) ∧ Below w.heap.size w w' := by
  obtain ⟨n, hln⟩ : ∃ n, l.length = n := ⟨_, rfl⟩
  have HC := Lib.hid (fun (W : World) (hB : Below w.heap.size w W) => nums_wholes l hl hn g c W (h.below hB) (Nat.lt_of_lt_of_le hg hB.size))
  rw [hln] at HC hn ⊢
  obtain ⟨b, hb⟩ : ∃ b, allW l = b := ⟨_, rfl⟩
  rw [hb] at HC
  obtain ⟨ws, hws⟩ : ∃ ws, l.map wN = ws := ⟨_, rfl⟩
  rw [hws] at HC
  have hwl : ws.length = n := by rw [← hws, List.length_map, hln]
  have hww : ∀ u ∈ ws, u < 18446744073709551616 := by
    intro u hu
    rw [← hws] at hu
    obtain ⟨x, hx, rfl⟩ := List.mem_map.1 hu
    exact wN_word x (hl x hx).to64
  have HWW := Lib.hid hww
  unfold gcdX
  rw [hb, hws]
  clear hl h hws hb hww
  cases b
  · rw [if_neg (by decide)]
    go_enter Tryz.func73, Tryz.ntmps73
    go_wp2_with (first | (go_at_call 158; refine (HC.out _ (by (with_reducible repeat' (first | exact .refl _ _ | assumption | refine bmP ?_ ?_ | refine baP ?_ _ ?_ | refine .drew ?_ | refine .setCell ?_ ?_ _ | refine bdP ?_ _)) <;> go_size)).mono ?_; rintro e w1 ⟨⟨r, rfl, hr⟩, hb⟩; obtain ⟨l1, n1, rfl⟩ := more_of_below hb; clear hb hr) | (go_at_call 27; refine (value_Err _ _).mono ?_; rintro e w1 ⟨rfl, hb⟩; obtain ⟨l2, n2, rfl⟩ := more_of_below hb; clear hb))
    all_goals go_returns
    all_goals exact ⟨rfl, (by (with_reducible repeat' (first | exact .refl _ _ | assumption | refine bmP ?_ ?_ | refine baP ?_ _ ?_ | refine .drew ?_ | refine .setCell ?_ ?_ _ | refine bdP ?_ _)) <;> go_size)⟩
  · rw [if_pos rfl]
    obtain ⟨R, hR⟩ : ∃ R, wholeX (ws.foldl Nat.gcd 0) false = R := ⟨_, rfl⟩
    rw [hR]
    have HR := Lib.hid hR
    clear hR
    go_enter Tryz.func73, Tryz.ntmps73
    go_wp2_with fail
    go_at_call 158
    refine (HC.out _ (by (with_reducible repeat' (first | exact .refl _ _ | assumption | refine bmP ?_ ?_ | refine baP ?_ _ ?_ | refine .drew ?_ | refine .setCell ?_ ?_ _ | refine bdP ?_ _)) <;> go_size)).mono ?_
    rintro e w1 ⟨⟨r, rfl, hr⟩, hb⟩
    obtain ⟨A, c2, rfl, hrd⟩ := hr (by trivial)
    rw [hwl] at hrd ⊢
    have HRD := Lib.hid hrd
    obtain ⟨l1, n1, rfl⟩ := more_of_below hb
    clear hb hr hrd
    go_wp2
    go_loop [18, 5] (fun t u => ∃ j : Nat, j ≤ n ∧ t = .int .i64 j ∧ u = .int .u64 (((ws.take j).foldl Nat.gcd 0 : Nat) : Int) ∧ (ws.take j).foldl Nat.gcd 0 < 18446744073709551616) (fun t _ => n - (intOf t).toNat)
    case atStart => exact ⟨0, Nat.zero_le _, rfl, rfl, by show (0 : Nat) < _; decide⟩
    case round =>
      obtain ⟨j, hj, rfl, rfl, hf⟩ := hrel
      by_cases hlt : j < n
      · obtain ⟨b, off, rfl, _, hc⟩ := HRD.out.2 (by omega)
        obtain ⟨a, ha⟩ : ∃ a, ws[j]? = some a := ⟨_, List.getElem?_eq_getElem (show j < ws.length by omega)⟩
        have c0 := hc j _ (show (U ws)[j]? = some (.int .u64 (a : Int)) by simp [U, ha])
        have hlb := cell_ltJ c0
        have haw := HWW.out a (List.mem_of_getElem? ha)
        have e1 : (ws.take (j + 1)).foldl Nat.gcd 0 = Nat.gcd ((ws.take j).foldl Nat.gcd 0) a := by rw [take1 ha]; simp
        obtain ⟨q, hq⟩ : ∃ q, (ws.take j).foldl Nat.gcd 0 = q := ⟨_, rfl⟩
        rw [hq] at e1 hf ⊢
        have HQ := Lib.hid (gcd_word hf haw)
        have E1 := Lib.hid e1
        have HF := Lib.hid hf
        have HAW := Lib.hid haw
        clear e1 hf haw hc hq ha
        go_wp2_with (first | (go_at_call 159; refine (nums_gcd a q HF.out HAW.out _).mono ?_; rintro e w2 ⟨rfl, rfl⟩))
        go_round
        case rel => exact ⟨j + 1, by omega, by go_num, by rw [E1.out], by rw [E1.out]; exact HQ.out⟩
        case measure => simp [intOf]; omega
      · obtain rfl : j = n := by omega
        have hR := HR.out
        rw [List.take_of_length_le (by omega)] at hf ⊢
        obtain ⟨q, hq⟩ : ∃ q, ws.foldl Nat.gcd 0 = q := ⟨_, rfl⟩
        rw [hq] at hf hR ⊢
        subst hR
        clear HR hq HRD HC HWW
        go_wp2_with (first | (go_at_call 154; refine (nums_whole q hf false _).mono ?_; rintro e w1 ⟨rfl, hb⟩; obtain ⟨l2, n2, rfl⟩ := more_of_below hb; clear hb))
        all_goals go_returns
        all_goals exact ⟨rfl, (by (with_reducible repeat' (first | exact .refl _ _ | assumption | refine bmP ?_ ?_ | refine baP ?_ _ ?_ | refine .drew ?_ | refine .setCell ?_ ?_ _ | refine bdP ?_ _)) <;> go_size)⟩
end Go.Proofs.YtegbhdeaicgpkaaGreatDoor
namespace Go.Proofs.YtegbhdeaicgpkaaGreatDoor
open Go Go.RowKit
def lcmGo : List Nat → Nat → V
  | [], m => wholeX m false
  | n :: ns, m => if 922337203685477 < m * (n / Nat.gcd m n) then errG 2 else lcmGo ns (m * (n / Nat.gcd m n))
def lcmX (l : List Int) : V := if allW l then if (l.map wN).contains 0 then numG 0 else lcmGo (l.map wN) 1 else errG 8
set_option maxRecDepth 100000 in
set_option maxHeartbeats 600000 in
theorem nums_lcmOf (l : List Int) (hl : ∀ x ∈ l, In63 x) (hn : l.length ≤ 1000) (g c : Nat) (w : World) (h : AtB w g (I l)) (hg : g < w.heap.size) :
    Calls Tryz.prog 74 #[.slice (some ⟨g, 0, none⟩) l.length c] w fun e w' => e = .returned (Value.agg #[Value.int .i64 (lcmX l).tag, Value.int .i64 (lcmX l).num, Value.string (lcmX l).str, Value.bool (lcmX l).is, Value.int .i64 (lcmX l).code]) ∧ Below w.heap.size w w' := by
  obtain ⟨n, hln⟩ : ∃ n, l.length = n := ⟨_, rfl⟩
  have HC := Lib.hid (fun (W : World) (hB : Below w.heap.size w W) => nums_wholes l hl hn g c W (h.below hB) (Nat.lt_of_lt_of_le hg hB.size))
  rw [hln] at HC hn ⊢
  obtain ⟨b, hb⟩ : ∃ b, allW l = b := ⟨_, rfl⟩
  rw [hb] at HC
  obtain ⟨ws, hws⟩ : ∃ ws, l.map wN = ws := ⟨_, rfl⟩
  rw [hws] at HC
  have hwl : ws.length = n := by rw [← hws, List.length_map, hln]
  have hww : ∀ u ∈ ws, u < 18446744073709551616 := by
    intro u hu
    rw [← hws] at hu
    obtain ⟨x, hx, rfl⟩ := List.mem_map.1 hu
    exact wN_word x (hl x hx).to64
  have HWW := Lib.hid hww
  unfold lcmX
  rw [hb, hws]
  clear hl h hws hb hww
  cases b
  · rw [if_neg (by decide)]
    go_enter Tryz.func74, Tryz.ntmps74
    go_wp2_with (first | (go_at_call 158; refine (HC.out _ (by (with_reducible repeat' (first | exact .refl _ _ | assumption | refine bmP ?_ ?_ | refine baP ?_ _ ?_ | refine .drew ?_ | refine .setCell ?_ ?_ _ | refine bdP ?_ _)) <;> go_size)).mono ?_; rintro e w1 ⟨⟨r, rfl, hr⟩, hb⟩; obtain ⟨l1, n1, rfl⟩ := more_of_below hb; clear hb hr) | (go_at_call 27; refine (value_Err _ _).mono ?_; rintro e w1 ⟨rfl, hb⟩; obtain ⟨l2, n2, rfl⟩ := more_of_below hb; clear hb))
    all_goals go_returns
    all_goals exact ⟨rfl, (by (with_reducible repeat' (first | exact .refl _ _ | assumption | refine bmP ?_ ?_ | refine baP ?_ _ ?_ | refine .drew ?_ | refine .setCell ?_ ?_ _ | refine bdP ?_ _)) <;> go_size)⟩
  · rw [if_pos rfl]
    obtain ⟨R, hR⟩ : ∃ R, (if ws.contains 0 then numG 0 else lcmGo ws 1) = R := ⟨_, rfl⟩
    rw [hR]
    have HR := Lib.hid hR
    clear hR
    go_enter Tryz.func74, Tryz.ntmps74
    go_wp2_with fail
    go_at_call 158
    refine (HC.out _ (by (with_reducible repeat' (first | exact .refl _ _ | assumption | refine bmP ?_ ?_ | refine baP ?_ _ ?_ | refine .drew ?_ | refine .setCell ?_ ?_ _ | refine bdP ?_ _)) <;> go_size)).mono ?_
    rintro e w1 ⟨⟨r, rfl, hr⟩, hb⟩
    obtain ⟨A, c2, rfl, hrd⟩ := hr (by trivial)
    rw [hwl] at hrd ⊢
    have HRD := Lib.hid hrd
    obtain ⟨l1, n1, rfl⟩ := more_of_below hb
    clear hb hr hrd
    obtain ⟨z, hz⟩ : ∃ z, ws.contains 0 = z := ⟨_, rfl⟩
    have HZ := Lib.hid hz
    have HCW := Lib.hid (fun W (hB : Below (more (w.alloc (.cells #[.int .i64 0, .int .i64 0, .string ⟨#[]⟩, .bool false, .int .i64 0] 29)) l1 n1).heap.size (more (w.alloc (.cells #[.int .i64 0, .int .i64 0, .string ⟨#[]⟩, .bool false, .int .i64 0] 29)) l1 n1) W) => contains_words A n c2 _ ws W (HRD.out.below hB) (by omega))
    rw [hz] at HCW
    have hR := HR.out
    rw [hz] at hR
    clear hz HR
    cases z
    · rw [if_neg (by decide)] at hR
      have HR2 := Lib.hid hR
      clear hR
      go_wp2_with (first | (go_at_call 160; refine (HCW.out _ (Below.refl _ _)).mono ?_; rintro e w2 ⟨rfl, rfl⟩))
      go_loop [23, 5] (fun t u => ∃ (j q : Nat), j ≤ n ∧ t = .int .i64 j ∧ u = .int .u64 (q : Int) ∧ 1 ≤ q ∧ q ≤ 922337203685477 ∧ lcmGo (ws.drop j) q = R) (fun t _ => n - (intOf t).toNat)
      case atStart => exact ⟨0, 1, Nat.zero_le _, rfl, rfl, by omega, by omega, HR2.out⟩
      case round =>
        obtain ⟨j, q, hj, rfl, rfl, hq1, hq2, hR⟩ := hrel
        have hq64 : q < 18446744073709551616 := by omega
        by_cases hlt : j < n
        · obtain ⟨b, off, rfl, _, hc⟩ := HRD.out.2 (by omega)
          obtain ⟨a, ha⟩ : ∃ a, ws[j]? = some a := ⟨_, List.getElem?_eq_getElem (show j < ws.length by omega)⟩
          have c0 := hc j _ (show (U ws)[j]? = some (.int .u64 (a : Int)) by simp [U, ha])
          have hlb := cell_ltJ c0
          have haw := HWW.out a (List.mem_of_getElem? ha)
          have ha0 : a ≠ 0 := by
            intro e
            have h0 := HZ.out
            rw [List.contains_eq_mem] at h0
            simp only [decide_eq_false_iff_not] at h0
            exact h0 (e ▸ List.mem_of_getElem? ha)
          have hd : ws.drop j = a :: ws.drop (j + 1) := by
            obtain ⟨hm, hv⟩ := List.getElem?_eq_some_iff.1 ha
            rw [List.drop_eq_getElem_cons hm, hv]
          rw [hd] at hR
          unfold lcmGo at hR
          obtain ⟨d, hdd⟩ : ∃ d, Nat.gcd q a = d := ⟨_, rfl⟩
          have hd0 : 0 < d := by rw [← hdd]; exact Nat.gcd_pos_of_pos_left _ hq1
          have hda : d ≤ a := by rw [← hdd]; exact Nat.gcd_le_right _ (by omega)
          obtain ⟨e, hee⟩ : ∃ e, a / d = e := ⟨_, rfl⟩
          have he1 : 1 ≤ e := by rw [← hee]; exact Nat.div_pos hda hd0
          have hea : e ≤ a := by rw [← hee]; exact Nat.div_le_self _ _
          obtain ⟨p, hp⟩ : ∃ p, q * e = p := ⟨_, rfl⟩
          have hp1 : 1 ≤ p := by rw [← hp]; exact Nat.mul_le_mul hq1 he1
          rw [hdd, hee, hp] at hR
          obtain ⟨p1, hp1'⟩ : ∃ q, p / 18446744073709551616 = q := ⟨_, rfl⟩
          obtain ⟨p0, hp0'⟩ : ∃ q, p % 18446744073709551616 = q := ⟨_, rfl⟩
          have hq' : (a : Int) / (d : Int) = (e : Int) := by rw [← hee]; rfl
          have hq'' : (a : Int).tdiv (d : Int) = (e : Int) := by rw [← hee]; rfl
          have hdne : (d : Int) ≠ 0 := by omega
          have hwe : IntKind.u64.wrap (e : Int) = e := by rw [IntKind.wrap_u64]; omega
          have HP := Lib.hid hp
          have HP1 := Lib.hid hp1'
          have HP0 := Lib.hid hp0'
          have HD := Lib.hid hdd
          have HQ := Lib.hid hq64
          have HAW := Lib.hid haw
          have HEW := Lib.hid (show e < 18446744073709551616 by omega)
          by_cases ho : 922337203685477 < p
          · rw [if_pos ho] at hR
            subst hR
            by_cases ho1 : 0 < p1
            · have ho1' : (0 : Int) < (p1 : Int) := by omega
              clear hp hp1' hp0' hdd hee ha0 ha haw hd hc he1 hea hp1 ho
              go_wp2_with (first | (go_at_call 159; refine (nums_gcd a q HQ.out HAW.out _).mono ?_; rw [HD.out]; rintro e w2 ⟨rfl, rfl⟩) | (go_at_call 152; refine (Tryz.bits_Mul64 q e HQ.out HEW.out _).mono ?_; rw [HP.out, HP1.out, HP0.out]; rintro e w1 ⟨rfl, rfl⟩) | (go_at_call 27; refine (value_Err _ _).mono ?_; rintro e w1 ⟨rfl, hb⟩; obtain ⟨l2, n2, rfl⟩ := more_of_below hb; clear hb))
              all_goals go_returns
              all_goals exact ⟨rfl, (by (with_reducible repeat' (first | exact .refl _ _ | assumption | refine bmP ?_ ?_ | refine baP ?_ _ ?_ | refine .drew ?_ | refine .setCell ?_ ?_ _ | refine bdP ?_ _)) <;> go_size)⟩
            · have ho1' : ¬ (0 : Int) < (p1 : Int) := by omega
              have ho2' : (922337203685477 : Int) < (p0 : Int) := by omega
              clear hp hp1' hp0' hdd hee ha0 ha haw hd hc he1 hea hp1 ho
              go_wp2_with (first | (go_at_call 159; refine (nums_gcd a q HQ.out HAW.out _).mono ?_; rw [HD.out]; rintro e w2 ⟨rfl, rfl⟩) | (go_at_call 152; refine (Tryz.bits_Mul64 q e HQ.out HEW.out _).mono ?_; rw [HP.out, HP1.out, HP0.out]; rintro e w1 ⟨rfl, rfl⟩) | (go_at_call 27; refine (value_Err _ _).mono ?_; rintro e w1 ⟨rfl, hb⟩; obtain ⟨l2, n2, rfl⟩ := more_of_below hb; clear hb))
              all_goals go_returns
              all_goals exact ⟨rfl, (by (with_reducible repeat' (first | exact .refl _ _ | assumption | refine bmP ?_ ?_ | refine baP ?_ _ ?_ | refine .drew ?_ | refine .setCell ?_ ?_ _ | refine bdP ?_ _)) <;> go_size)⟩
          · rw [if_neg ho] at hR
            have ho1' : ¬ (0 : Int) < (p1 : Int) := by omega
            have ho2' : ¬ (922337203685477 : Int) < (p0 : Int) := by omega
            have hpp : p0 = p := by omega
            have HRR := Lib.hid hR
            have HPP := Lib.hid hpp
            have HO := Lib.hid (show p ≤ 922337203685477 by omega)
            have HO1 := Lib.hid hp1
            clear hp hp1' hp0' hdd hee ha0 ha haw hd hc he1 hea hp1 ho hR hpp
            go_wp2_with (first | (go_at_call 159; refine (nums_gcd a q HQ.out HAW.out _).mono ?_; rw [HD.out]; rintro e w2 ⟨rfl, rfl⟩) | (go_at_call 152; refine (Tryz.bits_Mul64 q e HQ.out HEW.out _).mono ?_; rw [HP.out, HP1.out, HP0.out]; rintro e w1 ⟨rfl, rfl⟩))
            go_round
            case rel => exact ⟨j + 1, p, by omega, by go_num, by rw [HPP.out], HO1.out, HO.out, HRR.out⟩
            case measure => simp [intOf]; omega
        · obtain rfl : j = n := by omega
          rw [List.drop_of_length_le (by omega)] at hR
          have hR2 : R = wholeX q false := hR.symm
          subst hR2
          clear hR HR2
          go_wp2_with (first | (go_at_call 154; refine (nums_whole q hq64 false _).mono ?_; rintro e w1 ⟨rfl, hb⟩; obtain ⟨l2, n2, rfl⟩ := more_of_below hb; clear hb))
          all_goals go_returns
          all_goals exact ⟨rfl, (by (with_reducible repeat' (first | exact .refl _ _ | assumption | refine bmP ?_ ?_ | refine baP ?_ _ ?_ | refine .drew ?_ | refine .setCell ?_ ?_ _ | refine bdP ?_ _)) <;> go_size)⟩
    · rw [if_pos rfl] at hR
      subst hR
      go_wp2_with (first | (go_at_call 160; refine (HCW.out _ (Below.refl _ _)).mono ?_; rintro e w2 ⟨rfl, rfl⟩) | (go_at_call 56; refine (value_Num _ _).mono ?_; rintro e w1 ⟨rfl, hb⟩; obtain ⟨l2, n2, rfl⟩ := more_of_below hb; clear hb))
      all_goals go_returns
      all_goals exact ⟨rfl, (by (with_reducible repeat' (first | exact .refl _ _ | assumption | refine bmP ?_ ?_ | refine baP ?_ _ ?_ | refine .drew ?_ | refine .setCell ?_ ?_ _ | refine bdP ?_ _)) <;> go_size)⟩
end Go.Proofs.YtegbhdeaicgpkaaGreatDoor
namespace Go.Proofs.YtegbhdeaicgpkaaGreatDoor
open Go Go.RowKit
def placesX (f : Int → Int → Int × Int) (x y : Int) : V := if (wholeG y).2 then numC (f x (wholeG y).1) else errG 8
def truncP (x n : Int) : Int × Int := (truncX x n, 0)
theorem trunc_below (x n : Int) (hx : In63 x) (hn : Is64 n) (w : World) : Calls Tryz.prog 62 #[.int .i64 x, .int .i64 n] w fun e w' => e = .returned (.tuple #[.int .i64 (truncP x n).1, .int .i64 (truncP x n).2]) ∧ Below w.heap.size w w' :=
  (nums_trunc x n hx hn w).mono fun e w' ⟨h1, h2⟩ => ⟨h1, h2 ▸ Below.refl _ _⟩
theorem is64_nought : Is64 0 := ⟨by decide, by decide⟩
set_option maxRecDepth 100000 in
set_option maxHeartbeats 600000 in
theorem places_trunc1 (x : Int) (hx : In63 x) (p g c : Nat) (w : World) (hp : w.cell? ⟨p, 0, none⟩ = some (.func (.func 62) #[] #[])) (h0 : w.cell? ⟨g, 0, none⟩ = some (.int .i64 x)) :
    Calls Tryz.prog 150 #[.slice (some ⟨g, 0, none⟩) 1 c, .pointer (some ⟨p, 0, none⟩)] w fun e w' => e = .returned (Value.agg #[Value.int .i64 (numC (truncP x 0)).tag, Value.int .i64 (numC (truncP x 0)).num, Value.string (numC (truncP x 0)).str, Value.bool (numC (truncP x 0)).is, Value.int .i64 (numC (truncP x 0)).code]) ∧ Below w.heap.size w w' := by
  have hl : g < w.heap.size := World.block_lt_of_cell? w _ h0
  have hpl : p < w.heap.size := World.block_lt_of_cell? w _ hp
  have HX := Lib.hid hx
  clear hx
  go_enter Tryz.func150, Tryz.ntmps150
  go_wp2_with fail
  go_region_held3 (fun w' => w'.cell? ⟨p, 0, none⟩ = some (.func (.func 62) #[] #[]) ∧ w'.cell? ⟨g, 0, none⟩ = some (.int .i64 x))
    (first | (go_keep; done) | (go_split_ands; refine ⟨?_, ?_⟩ <;> (repeat (first | assumption | with_reducible refine cell_moreJ ?_ _ _ | with_reducible refine cell_allocJ ?_ _ | with_reducible refine cell_drewJ ?_))))
    (first | (go_at_call 62; refine (trunc_below x 0 HX.out is64_nought _).mono ?_; rintro e w2 ⟨rfl, hb⟩; obtain ⟨l1, n1, rfl⟩ := more_of_below hb; clear hb) | (go_at_call 59; refine (nums_told _ _ _).mono ?_; rintro e w1 ⟨rfl, hb⟩; obtain ⟨l2, n2, rfl⟩ := more_of_below hb; clear hb))
  all_goals go_wp2
  all_goals go_returns
  all_goals exact ⟨rfl, (by (with_reducible repeat' (first | exact .refl _ _ | assumption | refine bmP ?_ ?_ | refine baP ?_ _ ?_ | refine .drew ?_ | refine .setCell ?_ ?_ _ | refine bdP ?_ _)) <;> go_size)⟩
set_option maxRecDepth 100000 in
set_option maxHeartbeats 600000 in
theorem places_trunc2 (x y : Int) (hx : In63 x) (hy : Is64 y) (p g c : Nat) (w : World) (hp : w.cell? ⟨p, 0, none⟩ = some (.func (.func 62) #[] #[])) (h0 : w.cell? ⟨g, 0, none⟩ = some (.int .i64 x)) (h1 : w.cell? ⟨g, 1, none⟩ = some (.int .i64 y)) :
    Calls Tryz.prog 150 #[.slice (some ⟨g, 0, none⟩) 2 c, .pointer (some ⟨p, 0, none⟩)] w fun e w' => e = .returned (Value.agg #[Value.int .i64 (placesX truncP x y).tag, Value.int .i64 (placesX truncP x y).num, Value.string (placesX truncP x y).str, Value.bool (placesX truncP x y).is, Value.int .i64 (placesX truncP x y).code]) ∧ Below w.heap.size w w' := by
  have hl : g < w.heap.size := World.block_lt_of_cell? w _ h0
  have hpl : p < w.heap.size := World.block_lt_of_cell? w _ hp
  have HX := Lib.hid hx
  have HW := Lib.hid (show Is64 (wholeG y).1 from (whole_63 y hy).to64)
  have HY := Lib.hid hy
  clear hx hy
  unfold placesX
  cases h : (wholeG y).2
  · rw [if_neg (by decide)]
    go_enter Tryz.func150, Tryz.ntmps150
    go_wp2_with (first | (go_at_call 36; refine (dec_Whole y HY.out.1 HY.out.2 _).mono ?_; rintro e w1 ⟨rfl, rfl⟩) | (go_at_call 27; refine (value_Err _ _).mono ?_; rintro e w1 ⟨rfl, hb⟩; obtain ⟨l, m, rfl⟩ := more_of_below hb; clear hb))
    all_goals go_returns
    all_goals exact ⟨rfl, (by (with_reducible repeat' (first | exact .refl _ _ | assumption | refine bmP ?_ ?_ | refine baP ?_ _ ?_ | refine .drew ?_ | refine .setCell ?_ ?_ _ | refine bdP ?_ _)) <;> go_size)⟩
  · rw [if_pos rfl]
    go_enter Tryz.func150, Tryz.ntmps150
    go_wp2_with (first | (go_at_call 36; refine (dec_Whole y HY.out.1 HY.out.2 _).mono ?_; rintro e w1 ⟨rfl, rfl⟩))
    go_region_held3 (fun w' => w'.cell? ⟨p, 0, none⟩ = some (.func (.func 62) #[] #[]) ∧ w'.cell? ⟨g, 0, none⟩ = some (.int .i64 x))
      (first | (go_keep; done) | (go_split_ands; refine ⟨?_, ?_⟩ <;> (repeat (first | assumption | with_reducible refine cell_moreJ ?_ _ _ | with_reducible refine cell_allocJ ?_ _ | with_reducible refine cell_drewJ ?_))))
      (first | (go_at_call 62; refine (trunc_below x (wholeG y).1 HX.out HW.out _).mono ?_; rintro e w2 ⟨rfl, hb⟩; obtain ⟨l1, n1, rfl⟩ := more_of_below hb; clear hb) | (go_at_call 59; refine (nums_told _ _ _).mono ?_; rintro e w1 ⟨rfl, hb⟩; obtain ⟨l2, n2, rfl⟩ := more_of_below hb; clear hb))
    all_goals go_wp2
    all_goals go_returns
    all_goals exact ⟨rfl, (by (with_reducible repeat' (first | exact .refl _ _ | assumption | refine bmP ?_ ?_ | refine baP ?_ _ ?_ | refine .drew ?_ | refine .setCell ?_ ?_ _ | refine bdP ?_ _)) <;> go_size)⟩
set_option maxRecDepth 100000 in
set_option maxHeartbeats 600000 in
theorem places_round1 (x : Int) (hx : In63 x) (p g c : Nat) (w : World) (hp : w.cell? ⟨p, 0, none⟩ = some (.func (.func 63) #[] #[])) (h0 : w.cell? ⟨g, 0, none⟩ = some (.int .i64 x)) :
    Calls Tryz.prog 150 #[.slice (some ⟨g, 0, none⟩) 1 c, .pointer (some ⟨p, 0, none⟩)] w fun e w' => e = .returned (Value.agg #[Value.int .i64 (numC (roundX x 0)).tag, Value.int .i64 (numC (roundX x 0)).num, Value.string (numC (roundX x 0)).str, Value.bool (numC (roundX x 0)).is, Value.int .i64 (numC (roundX x 0)).code]) ∧ Below w.heap.size w w' := by
  have hl : g < w.heap.size := World.block_lt_of_cell? w _ h0
  have hpl : p < w.heap.size := World.block_lt_of_cell? w _ hp
  have HX := Lib.hid hx
  clear hx
  go_enter Tryz.func150, Tryz.ntmps150
  go_wp2_with fail
  go_region_held3 (fun w' => w'.cell? ⟨p, 0, none⟩ = some (.func (.func 63) #[] #[]) ∧ w'.cell? ⟨g, 0, none⟩ = some (.int .i64 x))
    (first | (go_keep; done) | (go_split_ands; refine ⟨?_, ?_⟩ <;> (repeat (first | assumption | with_reducible refine cell_moreJ ?_ _ _ | with_reducible refine cell_allocJ ?_ _ | with_reducible refine cell_drewJ ?_))))
    (first | (go_at_call 63; refine (dec_Round x 0 HX.out.to64 is64_nought _).mono ?_; rintro e w2 ⟨rfl, hb⟩; obtain ⟨l1, n1, rfl⟩ := more_of_below hb; clear hb) | (go_at_call 59; refine (nums_told _ _ _).mono ?_; rintro e w1 ⟨rfl, hb⟩; obtain ⟨l2, n2, rfl⟩ := more_of_below hb; clear hb))
  all_goals go_wp2
  all_goals go_returns
  all_goals exact ⟨rfl, (by (with_reducible repeat' (first | exact .refl _ _ | assumption | refine bmP ?_ ?_ | refine baP ?_ _ ?_ | refine .drew ?_ | refine .setCell ?_ ?_ _ | refine bdP ?_ _)) <;> go_size)⟩
set_option maxRecDepth 100000 in
set_option maxHeartbeats 600000 in
theorem places_round2 (x y : Int) (hx : In63 x) (hy : Is64 y) (p g c : Nat) (w : World) (hp : w.cell? ⟨p, 0, none⟩ = some (.func (.func 63) #[] #[])) (h0 : w.cell? ⟨g, 0, none⟩ = some (.int .i64 x)) (h1 : w.cell? ⟨g, 1, none⟩ = some (.int .i64 y)) :
    Calls Tryz.prog 150 #[.slice (some ⟨g, 0, none⟩) 2 c, .pointer (some ⟨p, 0, none⟩)] w fun e w' => e = .returned (Value.agg #[Value.int .i64 (placesX roundX x y).tag, Value.int .i64 (placesX roundX x y).num, Value.string (placesX roundX x y).str, Value.bool (placesX roundX x y).is, Value.int .i64 (placesX roundX x y).code]) ∧ Below w.heap.size w w' := by
  have hl : g < w.heap.size := World.block_lt_of_cell? w _ h0
  have hpl : p < w.heap.size := World.block_lt_of_cell? w _ hp
  have HX := Lib.hid hx
  have HW := Lib.hid (show Is64 (wholeG y).1 from (whole_63 y hy).to64)
  have HY := Lib.hid hy
  clear hx hy
  unfold placesX
  cases h : (wholeG y).2
  · rw [if_neg (by decide)]
    go_enter Tryz.func150, Tryz.ntmps150
    go_wp2_with (first | (go_at_call 36; refine (dec_Whole y HY.out.1 HY.out.2 _).mono ?_; rintro e w1 ⟨rfl, rfl⟩) | (go_at_call 27; refine (value_Err _ _).mono ?_; rintro e w1 ⟨rfl, hb⟩; obtain ⟨l, m, rfl⟩ := more_of_below hb; clear hb))
    all_goals go_returns
    all_goals exact ⟨rfl, (by (with_reducible repeat' (first | exact .refl _ _ | assumption | refine bmP ?_ ?_ | refine baP ?_ _ ?_ | refine .drew ?_ | refine .setCell ?_ ?_ _ | refine bdP ?_ _)) <;> go_size)⟩
  · rw [if_pos rfl]
    go_enter Tryz.func150, Tryz.ntmps150
    go_wp2_with (first | (go_at_call 36; refine (dec_Whole y HY.out.1 HY.out.2 _).mono ?_; rintro e w1 ⟨rfl, rfl⟩))
    go_region_held3 (fun w' => w'.cell? ⟨p, 0, none⟩ = some (.func (.func 63) #[] #[]) ∧ w'.cell? ⟨g, 0, none⟩ = some (.int .i64 x))
      (first | (go_keep; done) | (go_split_ands; refine ⟨?_, ?_⟩ <;> (repeat (first | assumption | with_reducible refine cell_moreJ ?_ _ _ | with_reducible refine cell_allocJ ?_ _ | with_reducible refine cell_drewJ ?_))))
      (first | (go_at_call 63; refine (dec_Round x (wholeG y).1 HX.out.to64 HW.out _).mono ?_; rintro e w2 ⟨rfl, hb⟩; obtain ⟨l1, n1, rfl⟩ := more_of_below hb; clear hb) | (go_at_call 59; refine (nums_told _ _ _).mono ?_; rintro e w1 ⟨rfl, hb⟩; obtain ⟨l2, n2, rfl⟩ := more_of_below hb; clear hb))
    all_goals go_wp2
    all_goals go_returns
    all_goals exact ⟨rfl, (by (with_reducible repeat' (first | exact .refl _ _ | assumption | refine bmP ?_ ?_ | refine baP ?_ _ ?_ | refine .drew ?_ | refine .setCell ?_ ?_ _ | refine bdP ?_ _)) <;> go_size)⟩
set_option maxRecDepth 100000 in
set_option maxHeartbeats 600000 in
theorem places_power2 (x y : Int) (hx : In63 x) (hy : Is64 y) (p g c : Nat) (w : World) (hp : w.cell? ⟨p, 0, none⟩ = some (.func (.func 70) #[] #[])) (h0 : w.cell? ⟨g, 0, none⟩ = some (.int .i64 x)) (h1 : w.cell? ⟨g, 1, none⟩ = some (.int .i64 y)) :
    Calls Tryz.prog 150 #[.slice (some ⟨g, 0, none⟩) 2 c, .pointer (some ⟨p, 0, none⟩)] w fun e w' => e = .returned (Value.agg #[Value.int .i64 (placesX powX x y).tag, Value.int .i64 (placesX powX x y).num, Value.string (placesX powX x y).str, Value.bool (placesX powX x y).is, Value.int .i64 (placesX powX x y).code]) ∧ Below w.heap.size w w' := by
  have hl : g < w.heap.size := World.block_lt_of_cell? w _ h0
  have hpl : p < w.heap.size := World.block_lt_of_cell? w _ hp
  have HX := Lib.hid hx
  have HW := Lib.hid (show Is64 (wholeG y).1 from (whole_63 y hy).to64)
  have HY := Lib.hid hy
  clear hx hy
  unfold placesX
  cases h : (wholeG y).2
  · rw [if_neg (by decide)]
    go_enter Tryz.func150, Tryz.ntmps150
    go_wp2_with (first | (go_at_call 36; refine (dec_Whole y HY.out.1 HY.out.2 _).mono ?_; rintro e w1 ⟨rfl, rfl⟩) | (go_at_call 27; refine (value_Err _ _).mono ?_; rintro e w1 ⟨rfl, hb⟩; obtain ⟨l, m, rfl⟩ := more_of_below hb; clear hb))
    all_goals go_returns
    all_goals exact ⟨rfl, (by (with_reducible repeat' (first | exact .refl _ _ | assumption | refine bmP ?_ ?_ | refine baP ?_ _ ?_ | refine .drew ?_ | refine .setCell ?_ ?_ _ | refine bdP ?_ _)) <;> go_size)⟩
  · rw [if_pos rfl]
    go_enter Tryz.func150, Tryz.ntmps150
    go_wp2_with (first | (go_at_call 36; refine (dec_Whole y HY.out.1 HY.out.2 _).mono ?_; rintro e w1 ⟨rfl, rfl⟩))
    go_region_held3 (fun w' => w'.cell? ⟨p, 0, none⟩ = some (.func (.func 70) #[] #[]) ∧ w'.cell? ⟨g, 0, none⟩ = some (.int .i64 x))
      (first | (go_keep; done) | (go_split_ands; refine ⟨?_, ?_⟩ <;> (repeat (first | assumption | with_reducible refine cell_moreJ ?_ _ _ | with_reducible refine cell_allocJ ?_ _ | with_reducible refine cell_drewJ ?_))))
      (first | (go_at_call 70; refine (dec_Power x (wholeG y).1 HX.out.to64 HW.out _).mono ?_; rintro e w2 ⟨rfl, hb⟩; obtain ⟨l1, n1, rfl⟩ := more_of_below hb; clear hb) | (go_at_call 59; refine (nums_told _ _ _).mono ?_; rintro e w1 ⟨rfl, hb⟩; obtain ⟨l2, n2, rfl⟩ := more_of_below hb; clear hb))
    all_goals go_wp2
    all_goals go_returns
    all_goals exact ⟨rfl, (by (with_reducible repeat' (first | exact .refl _ _ | assumption | refine bmP ?_ ?_ | refine baP ?_ _ ?_ | refine .drew ?_ | refine .setCell ?_ ?_ _ | refine bdP ?_ _)) <;> go_size)⟩
end Go.Proofs.YtegbhdeaicgpkaaGreatDoor
