/-
  Parts of a proof: TabCall, Known, KnownL, KnownF, LawK.
-/
import Derived.Test.YtegbhdeaicgpkaaGreatDoorJ11
import Derived.Test.YtegbhdeaicgpkaaGreatDoorJ12
set_option linter.all false
namespace Go.Proofs.YtegbhdeaicgpkaaGreatDoor
open Go Go.RowKit
def callX (ok : Nat → Bool) (s : ByteArray) (xs : List Arg) (r : V) : V := if (List.range xs.length).all ok && takesAll s (xs.map Arg.many) then r else errG 8
def funL (pb pn : Nat) : Obj := .cells #[.func (.func 142) #[] #[.pointer (some ⟨pb, 0, none⟩), .pointer (some ⟨pn, 0, none⟩)], .func (.func 143) #[] #[.pointer (some ⟨pb, 0, none⟩), .pointer (some ⟨pn, 0, none⟩)]] 87
def funZ : Obj := .cells #[.nilFunc, .nilFunc] 87
theorem ent_lay {s : ByteArray} {fn fn1 : Fn} {first cap first1 cap1 : Array Value} {w : World} {i : Nat} (h : EntE w s (.agg #[.func fn first cap, .func fn1 first1 cap1])) (hl : layOf s = some i) :
    ∃ pb pn, fn = .func 142 ∧ first = #[] ∧ cap = #[.pointer (some ⟨pb, 0, none⟩), .pointer (some ⟨pn, 0, none⟩)] ∧ fn1 = .func 143 ∧ first1 = #[] ∧ cap1 = #[.pointer (some ⟨pb, 0, none⟩), .pointer (some ⟨pn, 0, none⟩)] ∧
      w.cell? ⟨pb, 1, none⟩ = some (.func (.func (layFn i 1)) #[] #[]) ∧ w.cell? ⟨pb, 2, none⟩ = some (.func (.func (layFn i 2)) #[] #[]) ∧ w.cell? ⟨pn, 0, none⟩ = some (.string s) := by
  rcases h with ⟨x, y, d, e1, _⟩ | ⟨j, e1, pb, pn, ev, h0, h1, h2, h3⟩
  · rw [own_lay s e1] at hl; cases hl
  · rw [e1] at hl
    cases hl
    injection ev with ev
    cases ev
    exact ⟨pb, pn, rfl, rfl, rfl, rfl, rfl, rfl, h1, h2, h3⟩
set_option maxRecDepth 100000 in
theorem layFn_in (i j : Nat) (args : Array Value) (w : World) : Sem.run Tryz.prog (callFunc (layFn i j) args) w = .ok (.enter (layFn i j) args) w := by
  unfold layFn
  repeat' split
  all_goals rfl
set_option maxRecDepth 100000 in
theorem made2 (pb pn i : Nat) (s : ByteArray) (A : Option Addr) (n c : Nat) (tx : Int) (r : V) (w : World) (h1 : w.cell? ⟨pb, 2, none⟩ = some (.func (.func (layFn i 2)) #[] #[])) (h2 : w.cell? ⟨pn, 0, none⟩ = some (.string s))
    (hdo : ∀ w', Below w.heap.size w w' → Calls Tryz.prog (layFn i 2) #[.string s, .slice A n c, .int .i64 tx] w' fun e w'' => e = .returned (Value.agg #[Value.int .i64 r.tag, Value.int .i64 r.num, Value.string r.str, Value.bool r.is, Value.int .i64 r.code]) ∧ Below w'.heap.size w' w'') :
    Calls Tryz.prog 143 #[.slice A n c, .int .i64 tx, .pointer (some ⟨pb, 0, none⟩), .pointer (some ⟨pn, 0, none⟩)] w fun e w' => e = .returned (Value.agg #[Value.int .i64 r.tag, Value.int .i64 r.num, Value.string r.str, Value.bool r.is, Value.int .i64 r.code]) ∧ Below w.heap.size w w' := by
  have hk := layFn_in i 2
  have HD := Lib.hid hdo
  have hb1 := World.block_lt_of_cell? w _ h1
  have hb2 := World.block_lt_of_cell? w _ h2
  obtain ⟨k, hkk⟩ : ∃ k, layFn i 2 = k := ⟨_, rfl⟩
  rw [hkk] at hk h1 HD
  clear hdo hkk
  go_enter Tryz.func143, Tryz.ntmps143
  go_wp2_with (first | (with_reducible refine Calls.mono (HD.out _ (by (with_reducible repeat' (first | exact .refl _ _ | assumption | refine bmP ?_ ?_ | refine baP ?_ _ ?_ | refine .drew ?_ | refine .setCell ?_ ?_ _ | refine bdP ?_ _)) <;> go_size)) ?_; rintro e w1 ⟨rfl, hb⟩; obtain ⟨l, q, rfl⟩ := more_of_below hb; clear hb))
  all_goals go_returns
  all_goals exact ⟨rfl, (by (with_reducible repeat' (first | exact .refl _ _ | assumption | refine bmP ?_ ?_ | refine baP ?_ _ ?_ | refine .drew ?_ | refine .setCell ?_ ?_ _ | refine bdP ?_ _)) <;> go_size)⟩
set_option maxRecDepth 100000 in
set_option maxHeartbeats 4000000 in
theorem table_callOwn (b : Nat) (tx : Int) (s : ByteArray) (x y : Int) (d : Doer) (ho : ownTab s = some (x, y, d)) (ok : Nat → Bool) (xs : List Arg) (A : Option Addr) (n c B : Nat) (w : World) (h : Ready w b) (hr : Reads w B 11 A n (argFlat xs)) (hm : n ≤ 1000000000000)
    (hmay : ∀ j a, xs[j]? = some a → ∀ w', Below w.heap.size w w' → Calls Tryz.prog 26 #[a.agg] w' fun e w'' => e = .returned (.bool (ok j)) ∧ Below w'.heap.size w' w'') (r : V)
    (hdo : ∀ w' pd f, Below w.heap.size w w' → w'.cell? ⟨pd, 0, none⟩ = some f → DoOK w' f d → between x y n = true → (∀ j, j < n → ok j = true) → Calls Tryz.prog 249 #[.slice A n c, .int .i64 tx, .pointer (some ⟨pd, 0, none⟩)] w' fun e w'' => e = .returned (Value.agg #[Value.int .i64 r.tag, Value.int .i64 r.num, Value.string r.str, Value.bool r.is, Value.int .i64 r.code]) ∧ Below w'.heap.size w' w'') :
    Calls Tryz.prog 8 #[.pointer (some ⟨b, 0, none⟩), .string s, .slice A n c, .int .i64 tx] w fun e w' => e = .returned (Value.agg #[Value.int .i64 (callX ok s xs r).tag, Value.int .i64 (callX ok s xs r).num, Value.string (callX ok s xs r).str, Value.bool (callX ok s xs r).is, Value.int .i64 (callX ok s xs r).code]) ∧ Below w.heap.size w w' := by
  have hD := Lib.hid (show D1 50 s = true by simp [D1, own_known s ho])
  have hbl := h.lt
  have hlen : xs.length = n := by
    have := hr.1
    rw [argFlat_length] at this
    omega
  obtain ⟨cs, hcs⟩ : ∃ cs, cs = (xs.map Arg.many).map Value.bool := ⟨_, rfl⟩
  have hcl : cs.length = n := by rw [hcs]; simp [hlen]
  have hcx : ∀ (j : Nat) (x : Arg), xs[j]? = some x → cs[j]? = some (.bool x.many) := fun j x hx => by rw [hcs, List.getElem?_map, List.getElem?_map, hx]; rfl
  have HCX := Lib.hid hcx
  have HCS := Lib.hid hcs
  obtain ⟨okN, hok0, hokS, hokn⟩ : ∃ okN : Nat → Bool, okN 0 = true ∧ (∀ j, okN (j + 1) = (okN j && ok j)) ∧ okN n = (List.range xs.length).all ok := ⟨fun j => (List.range j).all ok, rfl, fun j => by simp only; rw [List.range_succ, List.all_append]; simp, by rw [hlen]⟩
  have HOK := Lib.hid hokS
  have HON := Lib.hid hokn
  have HM := Lib.hid hmay
  have HR := Lib.hid hr
  obtain ⟨d0, m, hd, h0, h3, hM⟩ := h
  have HMI := Lib.hid hM
  have hd0 := Lib.hid hd
  have hml := hM.lt
  have HDO := Lib.hid hdo
  clear hcx hokS hokn hcs hmay hdo hr hM hd
  obtain ⟨i0, hi, hz0, hz1, hz2⟩ := info_parts info_B
  go_enter Tryz.func8, Tryz.ntmps8
  go_wp2_with (first | (go_at_call 25; refine (table_allR b _ d0 m hd0.out (by go_simp) (by go_simp)).mono ?_; rintro e w1 ⟨rfl, hb⟩; obtain ⟨l, q, rfl⟩ := more_of_below hb; clear hb) | (at_lookup; refine wpList_lookI (HMI.out.below (by (with_reducible repeat' (first | exact .refl _ _ | assumption | refine bmP ?_ ?_ | refine baP ?_ _ ?_ | refine .drew ?_ | refine .setCell ?_ ?_ _ | refine bdP ?_ _)) <;> go_size)) _ _ rfl rfl rfl _ rfl ?_ ?_))
  · intro fn first cap fn1 first1 cap1 hv
    obtain ⟨pl, pm, pd, f, rfl, rfl, rfl, rfl, rfl, rfl, h1, h2, h3, h4⟩ := ent_own hv.out.1 ho
    clear hv
    go_wp2
    go_loopw [23, 10, 11] (fun t o v wr => ∃ j : Nat, j ≤ n ∧ t = .int .i64 j ∧ o = .bool (okN j) ∧ GathRel ((more (w.alloc zeroV) l q).alloc (funO pl pm pd)) wr 4 1 v j (cs.take j)) (fun t _ _ _ => n - (intOf t).toNat)
    case atStart => exact ⟨0, Nat.zero_le _, rfl, by rw [hok0], Below.refl _ _, World.ownsRow_nil _ _ _ _⟩
    case round =>
      obtain ⟨j, hj, rfl, rfl, hR⟩ := hrel
      have hw0 : Below w.heap.size w ((more (w.alloc zeroV) l q).alloc (funO pl pm pd)) := (by (with_reducible repeat' (first | exact .refl _ _ | assumption | refine bmP ?_ ?_ | refine baP ?_ _ ?_ | refine .drew ?_ | refine .setCell ?_ ?_ _ | refine bdP ?_ _)) <;> go_size)
      have hwr : Below w.heap.size w wr := hw0.trans (hR.1.mono hw0.size)
      have hws := hwr.size
      by_cases hlt : j < n
      · obtain ⟨a, ha⟩ : ∃ a, xs[j]? = some a := ⟨_, List.getElem?_eq_getElem (show j < xs.length by omega)⟩
        obtain ⟨bk, off, rfl, _, hc⟩ := HR.out.2 (by omega)
        have hcell : ∀ i u, a.cells[i]? = some u → wr.cell? ⟨bk, off + (j * 11 + i), none⟩ = some u := fun i u hu => by
          have h1 := hc _ u (argFlat_at xs j a ha i u hu)
          exact (hwr.cell (p := ⟨bk, _, none⟩) (World.block_lt_of_cell? w _ h1)).trans h1
        have c0 := hcell 0 _ rfl
        have c1 := hcell 1 _ rfl
        have c2 := hcell 2 _ rfl
        have c3 := hcell 3 _ rfl
        have c4 := hcell 4 _ rfl
        have c5 := hcell 5 _ rfl
        have c6 := hcell 6 _ rfl
        have c7 := hcell 7 _ rfl
        have c8 := hcell 8 _ rfl
        have c9 := hcell 9 _ rfl
        have c10 := hcell 10 _ rfl
        simp only [← Nat.add_assoc, Nat.add_zero] at c0 c1 c2 c3 c4 c5 c6 c7 c8 c9 c10
        have HG := Lib.hid hR
        have HAJ := Lib.hid ha
        have HMH := Lib.hid (HM.out j a ha)
        clear hcell hR hc ha
        clear h1 h2 h3 h4 h0 hw0
        have hoj := HOK.out j
        cases hokj : okN j
        · rw [hokj] at hoj
          have HJ := Lib.hid hoj
          clear hokj hoj
          go_wp2_with (first | (at_builtin; refine wpList_append_own _ rfl _ _ 34 rfl ((more (w.alloc zeroV) l q).alloc (funO pl pm pd)).heap.size 4 i0 _ 1 1 Tryz.underlying34 hi hz0 hz1 hz2 rfl (by decide) _ _ _ rfl (own_below HG.out.2 (by (with_reducible repeat' (first | exact .refl _ _ | assumption | refine bmP ?_ ?_ | refine baP ?_ _ ?_ | refine .drew ?_ | refine .setCell ?_ ?_ _ | refine bdP ?_ _)) <;> go_size)) _ 1 1 [.bool a.many] rfl rfl ?_ ?_ ?_ ?_ ?_ ?_))
          · first | exact fun i u hu => fresh_cells (by simp) i u hu | exact fun i u hu => hu
          · intro u hu
            simp only [List.mem_cons, List.not_mem_nil, or_false] at hu
            subst hu
            rfl
          · simp only [maxLen]; omega
          · omega
          · have h1 := HG.out.1.size
            simp at h1 ⊢
            omega
          · intro v' w3 hown' hgrow _
            have R := GathRel.step HG.out (by (with_reducible repeat' (first | exact .refl _ _ | assumption | refine bmP ?_ ?_ | refine baP ?_ _ ?_ | refine .drew ?_ | refine .setCell ?_ ?_ _ | refine bdP ?_ _)) <;> go_size) (show w3.ownsRow ((more (w.alloc zeroV) l q).alloc (funO pl pm pd)).heap.size 4 1 v' (j + 1) (cs.take j ++ [.bool a.many]) from by simpa using hown') hgrow
            rw [← take_one (HCX.out j a HAJ.out)] at R
            have HG' := Lib.hid R
            clear hown' hgrow R HG c0 c1 c2 c3 c4 c5 c6 c7 c8 c9 c10 hwr
            go_wp2
            go_roundw
            case rel => exact ⟨j + 1, by omega, by go_num, by rw [HJ.out]; rfl, HG'.out⟩
            case measure => simp [intOf]; omega
        · rw [hokj] at hoj
          have HJ := Lib.hid hoj
          clear hokj hoj
          go_wp2_with (first | (go_at_call 26; refine (HMH.out _ (by (with_reducible repeat' (first | exact .refl _ _ | assumption | refine bmP ?_ ?_ | refine baP ?_ _ ?_ | refine .drew ?_ | refine .setCell ?_ ?_ _ | refine bdP ?_ _)) <;> go_size)).mono ?_; rintro e w2 ⟨rfl, hb⟩; obtain ⟨l2, q2, rfl⟩ := more_of_below hb; clear hb) | (at_builtin; refine wpList_append_own _ rfl _ _ 34 rfl ((more (w.alloc zeroV) l q).alloc (funO pl pm pd)).heap.size 4 i0 _ 1 1 Tryz.underlying34 hi hz0 hz1 hz2 rfl (by decide) _ _ _ rfl (own_below HG.out.2 (by (with_reducible repeat' (first | exact .refl _ _ | assumption | refine bmP ?_ ?_ | refine baP ?_ _ ?_ | refine .drew ?_ | refine .setCell ?_ ?_ _ | refine bdP ?_ _)) <;> go_size)) _ 1 1 [.bool a.many] rfl rfl ?_ ?_ ?_ ?_ ?_ ?_))
          · first | exact fun i u hu => fresh_cells (by simp) i u hu | exact fun i u hu => hu
          · intro u hu
            simp only [List.mem_cons, List.not_mem_nil, or_false] at hu
            subst hu
            rfl
          · simp only [maxLen]; omega
          · omega
          · have h1 := HG.out.1.size
            simp at h1 ⊢
            omega
          · intro v' w3 hown' hgrow _
            have R := GathRel.step HG.out (by (with_reducible repeat' (first | exact .refl _ _ | assumption | refine bmP ?_ ?_ | refine baP ?_ _ ?_ | refine .drew ?_ | refine .setCell ?_ ?_ _ | refine bdP ?_ _)) <;> go_size) (show w3.ownsRow ((more (w.alloc zeroV) l q).alloc (funO pl pm pd)).heap.size 4 1 v' (j + 1) (cs.take j ++ [.bool a.many]) from by simpa using hown') hgrow
            rw [← take_one (HCX.out j a HAJ.out)] at R
            have HG' := Lib.hid R
            clear hown' hgrow R HG c0 c1 c2 c3 c4 c5 c6 c7 c8 c9 c10 hwr
            go_wp2
            go_roundw
            case rel => exact ⟨j + 1, by omega, by go_num, by rw [HJ.out]; simp, HG'.out⟩
            case measure => simp [intOf]; omega
      · obtain rfl : j = n := by omega
        rw [List.take_of_length_le (by omega)] at hR
        obtain ⟨hB, hO⟩ := hR
        have hkw : Keeps (more (w.alloc zeroV) l q) wr := Keeps.trans (by repeat (first | with_reducible exact keeps_refl _ | with_reducible assumption | with_reducible refine keeps_alloc ?_ _ | with_reducible refine keeps_more ?_ _ _ | with_reducible refine keeps_drew ?_ | with_reducible refine keeps_drewN ?_ _)) (keeps_below hB)
        have h1' := hkw.cell _ _ _ h1
        have h2' := hkw.cell _ _ _ h2
        have h3' := hkw.cell _ _ _ h3
        have h4' := h4.keeps hkw
        have HPL := Lib.hid h1'
        have HPM := Lib.hid h2'
        have HPD := Lib.hid h3'
        have HOK' := Lib.hid h4'
        have hpd := World.block_lt_of_cell? _ _ h3'
        obtain ⟨xsB, hxb⟩ : ∃ xsB, xsB = xs.map Arg.many := ⟨_, rfl⟩
        rw [HCS.out, ← hxb] at hO
        obtain ⟨A', c', rfl⟩ := own_slice hO
        have HRD := Lib.hid (Reads.of_own hO)
        have hbn : xsB.length = j := by rw [hxb, List.length_map, hlen]
        have htl : takesAll s (xs.map Arg.many) = (between x y j && !hasTrue xsB) := by rw [← hxb]; simp [takesAll, ho, hbn]
        obtain ⟨l2, q2, rfl⟩ := more_of_below hB
        clear h1 h2 h3 h4 h1' h2' h4' hkw hO h0 hB
        unfold zeroV funO at *
        cases hokj : okN j
        · have e : callX ok s xs r = errG 8 := by
            have h1 := HON.out
            rw [hokj] at h1
            simp [callX, ← h1]
          have E := Lib.hid e
          clear e HDO hokj htl
          go_wp2_with (first | (go_at_call 27; refine (value_Err _ _).mono ?_; rintro e w1 ⟨rfl, hb⟩; obtain ⟨l3, q3, rfl⟩ := more_of_below hb; clear hb))
          all_goals go_returns
          all_goals exact ⟨by rw [E.out], (by (with_reducible repeat' (first | exact .refl _ _ | assumption | refine bmP ?_ ?_ | refine baP ?_ _ ?_ | refine .drew ?_ | refine .setCell ?_ ?_ _ | refine bdP ?_ _)) <;> go_size)⟩
        · have h1 := HON.out
          rw [hokj] at h1
          obtain ⟨tk, htk⟩ : ∃ tk, (between x y j && !hasTrue xsB) = tk := ⟨_, rfl⟩
          have HTK := Lib.hid htk
          rw [htk] at htl
          cases tk
          · have e : callX ok s xs r = errG 8 := by simp [callX, htl]
            have E := Lib.hid e
            clear e HDO h1 htl htk hokj
            go_wp2_with (first | (go_at_call 27; refine (value_Err _ _).mono ?_; rintro e w1 ⟨rfl, hb⟩; obtain ⟨l3, q3, rfl⟩ := more_of_below hb; clear hb) | (go_at_call 248; refine (singles1 pl pm x y A' j c' xsB _ _ (HPL.out) (HPM.out) HRD.out (by omega)).mono ?_; rintro e w4 ⟨rfl, hb⟩; rw [HTK.out]; obtain ⟨l4, q4, rfl⟩ := more_of_below hb; clear hb))
            all_goals go_returns
            all_goals exact ⟨by rw [E.out], (by (with_reducible repeat' (first | exact .refl _ _ | assumption | refine bmP ?_ ?_ | refine baP ?_ _ ?_ | refine .drew ?_ | refine .setCell ?_ ?_ _ | refine bdP ?_ _)) <;> go_size)⟩
          · have e : callX ok s xs r = r := by simp [callX, htl, ← h1]
            have E := Lib.hid e
            have hbt : between x y j = true := by
              cases h2 : between x y j
              · rw [h2] at htk; cases htk
              · rfl
            have hall : ∀ k, k < j → ok k = true := fun k hk => List.all_eq_true.1 h1.symm k (List.mem_range.2 (by omega))
            have HDC := Lib.hid (fun w' pd f h2 h3 h4 => HDO.out w' pd f h2 h3 h4 hbt hall)
            clear e HDO h1 htl hbt htk hokj hall
            go_wp2_with (first | (go_at_call 248; refine (singles1 pl pm x y A' j c' xsB _ _ (HPL.out) (HPM.out) HRD.out (by omega)).mono ?_; rintro e w4 ⟨rfl, hb⟩; rw [HTK.out]; obtain ⟨l4, q4, rfl⟩ := more_of_below hb; clear hb) | (go_at_call 249; refine Calls.mono (HDC.out _ pd f ?_ ?_ ?_) ?_; (exact (by (with_reducible repeat' (first | exact .refl _ _ | assumption | refine bmP ?_ ?_ | refine baP ?_ _ ?_ | refine .drew ?_ | refine .setCell ?_ ?_ _ | refine bdP ?_ _)) <;> go_size)); (rw [← more_more (l := l2) (n := q2)]; exact (keeps_more (keeps_refl _) _ _).cell _ _ _ HPD.out); (rw [← more_more (l := l2) (n := q2)]; exact HOK'.out.keeps (keeps_more (keeps_refl _) _ _)); rintro e w5 ⟨rfl, hb⟩; obtain ⟨l5, q5, rfl⟩ := more_of_below hb; clear hb))
            all_goals go_returns
            all_goals exact ⟨by rw [E.out], (by (with_reducible repeat' (first | exact .refl _ _ | assumption | refine bmP ?_ ?_ | refine baP ?_ _ ?_ | refine .drew ?_ | refine .setCell ?_ ?_ _ | refine bdP ?_ _)) <;> go_size)⟩
  · intro hv
    have h1 := hv.out
    rw [hD.out] at h1
    cases h1
set_option maxRecDepth 100000 in
set_option maxHeartbeats 4000000 in
theorem table_callLay (b : Nat) (tx : Int) (s : ByteArray) (i : Nat) (hl : layOf s = some i) (ok : Nat → Bool) (xs : List Arg) (A : Option Addr) (n c B : Nat) (w : World) (h : Ready w b) (hr : Reads w B 11 A n (argFlat xs)) (hm : n ≤ 1000000000000)
    (hmay : ∀ j a, xs[j]? = some a → ∀ w', Below w.heap.size w w' → Calls Tryz.prog 26 #[a.agg] w' fun e w'' => e = .returned (.bool (ok j)) ∧ Below w'.heap.size w' w'') (r : V)
    (hdo : ∀ w', Below w.heap.size w w' → Calls Tryz.prog (layFn i 2) #[.string s, .slice A n c, .int .i64 tx] w' fun e w'' => e = .returned (Value.agg #[Value.int .i64 r.tag, Value.int .i64 r.num, Value.string r.str, Value.bool r.is, Value.int .i64 r.code]) ∧ Below w'.heap.size w' w'') :
    Calls Tryz.prog 8 #[.pointer (some ⟨b, 0, none⟩), .string s, .slice A n c, .int .i64 tx] w fun e w' => e = .returned (Value.agg #[Value.int .i64 (callX ok s xs r).tag, Value.int .i64 (callX ok s xs r).num, Value.string (callX ok s xs r).str, Value.bool (callX ok s xs r).is, Value.int .i64 (callX ok s xs r).code]) ∧ Below w.heap.size w w' := by
  have hD := Lib.hid (show D1 50 s = true by simp [D1, lay_known s hl])
  have hno : ownTab s = none := by
    cases ho : ownTab s with
    | none => rfl
    | some q => rw [own_lay s ho] at hl; cases hl
  have hbl := h.lt
  have hlen : xs.length = n := by
    have := hr.1
    rw [argFlat_length] at this
    omega
  obtain ⟨cs, hcs⟩ : ∃ cs, cs = (xs.map Arg.many).map Value.bool := ⟨_, rfl⟩
  have hcl : cs.length = n := by rw [hcs]; simp [hlen]
  have hcx : ∀ (j : Nat) (x : Arg), xs[j]? = some x → cs[j]? = some (.bool x.many) := fun j x hx => by rw [hcs, List.getElem?_map, List.getElem?_map, hx]; rfl
  have HCX := Lib.hid hcx
  have HCS := Lib.hid hcs
  obtain ⟨okN, hok0, hokS, hokn⟩ : ∃ okN : Nat → Bool, okN 0 = true ∧ (∀ j, okN (j + 1) = (okN j && ok j)) ∧ okN n = (List.range xs.length).all ok := ⟨fun j => (List.range j).all ok, rfl, fun j => by simp only; rw [List.range_succ, List.all_append]; simp, by rw [hlen]⟩
  have HOK := Lib.hid hokS
  have HON := Lib.hid hokn
  have HM := Lib.hid hmay
  have HR := Lib.hid hr
  obtain ⟨d0, m, hd, h0, h3, hM⟩ := h
  have HMI := Lib.hid hM
  have hd0 := Lib.hid hd
  have hml := hM.lt
  have HDO := Lib.hid hdo
  clear hcx hokS hokn hcs hmay hdo hr hM hd
  obtain ⟨i0, hi, hz0, hz1, hz2⟩ := info_parts info_B
  go_enter Tryz.func8, Tryz.ntmps8
  go_wp2_with (first | (go_at_call 25; refine (table_allR b _ d0 m hd0.out (by go_simp) (by go_simp)).mono ?_; rintro e w1 ⟨rfl, hb⟩; obtain ⟨l, q, rfl⟩ := more_of_below hb; clear hb) | (at_lookup; refine wpList_lookI (HMI.out.below (by (with_reducible repeat' (first | exact .refl _ _ | assumption | refine bmP ?_ ?_ | refine baP ?_ _ ?_ | refine .drew ?_ | refine .setCell ?_ ?_ _ | refine bdP ?_ _)) <;> go_size)) _ _ rfl rfl rfl _ rfl ?_ ?_))
  · intro fn first cap fn1 first1 cap1 hv
    obtain ⟨pb, pn, rfl, rfl, rfl, rfl, rfl, rfl, h1, h2, h3⟩ := ent_lay hv.out.1 hl
    clear hv
    go_wp2
    go_loopw [23, 10, 11] (fun t o v wr => ∃ j : Nat, j ≤ n ∧ t = .int .i64 j ∧ o = .bool (okN j) ∧ GathRel ((more (w.alloc zeroV) l q).alloc (funL pb pn)) wr 4 1 v j (cs.take j)) (fun t _ _ _ => n - (intOf t).toNat)
    case atStart => exact ⟨0, Nat.zero_le _, rfl, by rw [hok0], Below.refl _ _, World.ownsRow_nil _ _ _ _⟩
    case round =>
      obtain ⟨j, hj, rfl, rfl, hR⟩ := hrel
      have hw0 : Below w.heap.size w ((more (w.alloc zeroV) l q).alloc (funL pb pn)) := (by (with_reducible repeat' (first | exact .refl _ _ | assumption | refine bmP ?_ ?_ | refine baP ?_ _ ?_ | refine .drew ?_ | refine .setCell ?_ ?_ _ | refine bdP ?_ _)) <;> go_size)
      have hwr : Below w.heap.size w wr := hw0.trans (hR.1.mono hw0.size)
      have hws := hwr.size
      by_cases hlt : j < n
      · obtain ⟨a, ha⟩ : ∃ a, xs[j]? = some a := ⟨_, List.getElem?_eq_getElem (show j < xs.length by omega)⟩
        obtain ⟨bk, off, rfl, _, hc⟩ := HR.out.2 (by omega)
        have hcell : ∀ i u, a.cells[i]? = some u → wr.cell? ⟨bk, off + (j * 11 + i), none⟩ = some u := fun i u hu => by
          have h1 := hc _ u (argFlat_at xs j a ha i u hu)
          exact (hwr.cell (p := ⟨bk, _, none⟩) (World.block_lt_of_cell? w _ h1)).trans h1
        have c0 := hcell 0 _ rfl
        have c1 := hcell 1 _ rfl
        have c2 := hcell 2 _ rfl
        have c3 := hcell 3 _ rfl
        have c4 := hcell 4 _ rfl
        have c5 := hcell 5 _ rfl
        have c6 := hcell 6 _ rfl
        have c7 := hcell 7 _ rfl
        have c8 := hcell 8 _ rfl
        have c9 := hcell 9 _ rfl
        have c10 := hcell 10 _ rfl
        simp only [← Nat.add_assoc, Nat.add_zero] at c0 c1 c2 c3 c4 c5 c6 c7 c8 c9 c10
        have HG := Lib.hid hR
        have HAJ := Lib.hid ha
        have HMH := Lib.hid (HM.out j a ha)
        clear hcell hR hc ha
        clear h1 h2 h3 h0 hw0
        have hoj := HOK.out j
        cases hokj : okN j
        · rw [hokj] at hoj
          have HJ := Lib.hid hoj
          clear hokj hoj
          go_wp2_with (first | (at_builtin; refine wpList_append_own _ rfl _ _ 34 rfl ((more (w.alloc zeroV) l q).alloc (funL pb pn)).heap.size 4 i0 _ 1 1 Tryz.underlying34 hi hz0 hz1 hz2 rfl (by decide) _ _ _ rfl (own_below HG.out.2 (by (with_reducible repeat' (first | exact .refl _ _ | assumption | refine bmP ?_ ?_ | refine baP ?_ _ ?_ | refine .drew ?_ | refine .setCell ?_ ?_ _ | refine bdP ?_ _)) <;> go_size)) _ 1 1 [.bool a.many] rfl rfl ?_ ?_ ?_ ?_ ?_ ?_))
          · first | exact fun i u hu => fresh_cells (by simp) i u hu | exact fun i u hu => hu
          · intro u hu
            simp only [List.mem_cons, List.not_mem_nil, or_false] at hu
            subst hu
            rfl
          · simp only [maxLen]; omega
          · omega
          · have h1 := HG.out.1.size
            simp at h1 ⊢
            omega
          · intro v' w3 hown' hgrow _
            have R := GathRel.step HG.out (by (with_reducible repeat' (first | exact .refl _ _ | assumption | refine bmP ?_ ?_ | refine baP ?_ _ ?_ | refine .drew ?_ | refine .setCell ?_ ?_ _ | refine bdP ?_ _)) <;> go_size) (show w3.ownsRow ((more (w.alloc zeroV) l q).alloc (funL pb pn)).heap.size 4 1 v' (j + 1) (cs.take j ++ [.bool a.many]) from by simpa using hown') hgrow
            rw [← take_one (HCX.out j a HAJ.out)] at R
            have HG' := Lib.hid R
            clear hown' hgrow R HG c0 c1 c2 c3 c4 c5 c6 c7 c8 c9 c10 hwr
            go_wp2
            go_roundw
            case rel => exact ⟨j + 1, by omega, by go_num, by rw [HJ.out]; rfl, HG'.out⟩
            case measure => simp [intOf]; omega
        · rw [hokj] at hoj
          have HJ := Lib.hid hoj
          clear hokj hoj
          go_wp2_with (first | (go_at_call 26; refine (HMH.out _ (by (with_reducible repeat' (first | exact .refl _ _ | assumption | refine bmP ?_ ?_ | refine baP ?_ _ ?_ | refine .drew ?_ | refine .setCell ?_ ?_ _ | refine bdP ?_ _)) <;> go_size)).mono ?_; rintro e w2 ⟨rfl, hb⟩; obtain ⟨l2, q2, rfl⟩ := more_of_below hb; clear hb) | (at_builtin; refine wpList_append_own _ rfl _ _ 34 rfl ((more (w.alloc zeroV) l q).alloc (funL pb pn)).heap.size 4 i0 _ 1 1 Tryz.underlying34 hi hz0 hz1 hz2 rfl (by decide) _ _ _ rfl (own_below HG.out.2 (by (with_reducible repeat' (first | exact .refl _ _ | assumption | refine bmP ?_ ?_ | refine baP ?_ _ ?_ | refine .drew ?_ | refine .setCell ?_ ?_ _ | refine bdP ?_ _)) <;> go_size)) _ 1 1 [.bool a.many] rfl rfl ?_ ?_ ?_ ?_ ?_ ?_))
          · first | exact fun i u hu => fresh_cells (by simp) i u hu | exact fun i u hu => hu
          · intro u hu
            simp only [List.mem_cons, List.not_mem_nil, or_false] at hu
            subst hu
            rfl
          · simp only [maxLen]; omega
          · omega
          · have h1 := HG.out.1.size
            simp at h1 ⊢
            omega
          · intro v' w3 hown' hgrow _
            have R := GathRel.step HG.out (by (with_reducible repeat' (first | exact .refl _ _ | assumption | refine bmP ?_ ?_ | refine baP ?_ _ ?_ | refine .drew ?_ | refine .setCell ?_ ?_ _ | refine bdP ?_ _)) <;> go_size) (show w3.ownsRow ((more (w.alloc zeroV) l q).alloc (funL pb pn)).heap.size 4 1 v' (j + 1) (cs.take j ++ [.bool a.many]) from by simpa using hown') hgrow
            rw [← take_one (HCX.out j a HAJ.out)] at R
            have HG' := Lib.hid R
            clear hown' hgrow R HG c0 c1 c2 c3 c4 c5 c6 c7 c8 c9 c10 hwr
            go_wp2
            go_roundw
            case rel => exact ⟨j + 1, by omega, by go_num, by rw [HJ.out]; simp, HG'.out⟩
            case measure => simp [intOf]; omega
      · obtain rfl : j = n := by omega
        rw [List.take_of_length_le (by omega)] at hR
        obtain ⟨hB, hO⟩ := hR
        have hkw : Keeps (more (w.alloc zeroV) l q) wr := Keeps.trans (by repeat (first | with_reducible exact keeps_refl _ | with_reducible assumption | with_reducible refine keeps_alloc ?_ _ | with_reducible refine keeps_more ?_ _ _ | with_reducible refine keeps_drew ?_ | with_reducible refine keeps_drewN ?_ _)) (keeps_below hB)
        have HPL := Lib.hid (hkw.cell _ _ _ h1)
        have HPD := Lib.hid (hkw.cell _ _ _ h2)
        have HPM := Lib.hid (hkw.cell _ _ _ h3)
        have hpd := World.block_lt_of_cell? _ _ HPD.out
        have hpn := World.block_lt_of_cell? _ _ HPM.out
        obtain ⟨xsB, hxb⟩ : ∃ xsB, xsB = xs.map Arg.many := ⟨_, rfl⟩
        rw [HCS.out, ← hxb] at hO
        obtain ⟨A', c', rfl⟩ := own_slice hO
        have HRD := Lib.hid (Reads.of_own hO)
        have hbn : xsB.length = j := by rw [hxb, List.length_map, hlen]
        have htl : takesAll s (xs.map Arg.many) = layTakes i s xsB := by rw [← hxb]; simp [takesAll, hno, hl]
        obtain ⟨l2, q2, rfl⟩ := more_of_below hB
        clear h1 h2 h3 hkw hO h0 hB
        unfold zeroV funL at *
        cases hokj : okN j
        · have e : callX ok s xs r = errG 8 := by
            have h1 := HON.out
            rw [hokj] at h1
            simp [callX, ← h1]
          have E := Lib.hid e
          clear e HDO hokj htl
          go_wp2_with (first | (go_at_call 27; refine (value_Err _ _).mono ?_; rintro e w1 ⟨rfl, hb⟩; obtain ⟨l3, q3, rfl⟩ := more_of_below hb; clear hb))
          all_goals go_returns
          all_goals exact ⟨by rw [E.out], (by (with_reducible repeat' (first | exact .refl _ _ | assumption | refine bmP ?_ ?_ | refine baP ?_ _ ?_ | refine .drew ?_ | refine .setCell ?_ ?_ _ | refine bdP ?_ _)) <;> go_size)⟩
        · have h1 := HON.out
          rw [hokj] at h1
          obtain ⟨tk, htk⟩ : ∃ tk, layTakes i s xsB = tk := ⟨_, rfl⟩
          have HTK := Lib.hid htk
          rw [htk] at htl
          cases tk
          · have e : callX ok s xs r = errG 8 := by simp [callX, htl]
            have E := Lib.hid e
            clear e HDO h1 htl htk hokj
            go_wp2_with (first | (go_at_call 27; refine (value_Err _ _).mono ?_; rintro e w1 ⟨rfl, hb⟩; obtain ⟨l3, q3, rfl⟩ := more_of_below hb; clear hb) | (go_at_call 142; refine (made1 pb pn i s A' j c' xsB _ _ (HPL.out) (HPM.out) HRD.out (by omega)).mono ?_; rintro e w4 ⟨rfl, hb⟩; rw [HTK.out]; obtain ⟨l4, q4, rfl⟩ := more_of_below hb; clear hb))
            all_goals go_returns
            all_goals exact ⟨by rw [E.out], (by (with_reducible repeat' (first | exact .refl _ _ | assumption | refine bmP ?_ ?_ | refine baP ?_ _ ?_ | refine .drew ?_ | refine .setCell ?_ ?_ _ | refine bdP ?_ _)) <;> go_size)⟩
          · have e : callX ok s xs r = r := by simp [callX, htl, ← h1]
            have E := Lib.hid e
            clear e h1 htl htk hokj
            go_wp2_with (first | (go_at_call 142; refine (made1 pb pn i s A' j c' xsB _ _ (HPL.out) (HPM.out) HRD.out (by omega)).mono ?_; rintro e w4 ⟨rfl, hb⟩; rw [HTK.out]; obtain ⟨l4, q4, rfl⟩ := more_of_below hb; clear hb) | (go_at_call 143; refine Calls.mono (made2 pb pn i s A j c tx r _ ?_ ?_ (fun w' hw' => HDO.out w' ((show Below w.heap.size w _ from (by (with_reducible repeat' (first | exact .refl _ _ | assumption | refine bmP ?_ ?_ | refine baP ?_ _ ?_ | refine .drew ?_ | refine .setCell ?_ ?_ _ | refine bdP ?_ _)) <;> go_size)).trans (hw'.mono (show Below w.heap.size w _ from (by (with_reducible repeat' (first | exact .refl _ _ | assumption | refine bmP ?_ ?_ | refine baP ?_ _ ?_ | refine .drew ?_ | refine .setCell ?_ ?_ _ | refine bdP ?_ _)) <;> go_size)).size)))) ?_; (rw [← more_more (l := l2) (n := q2)]; exact (keeps_more (keeps_refl _) _ _).cell _ _ _ HPD.out); (rw [← more_more (l := l2) (n := q2)]; exact (keeps_more (keeps_refl _) _ _).cell _ _ _ HPM.out); rintro e w5 ⟨rfl, hb⟩; obtain ⟨l5, q5, rfl⟩ := more_of_below hb; clear hb))
            all_goals go_returns
            all_goals exact ⟨by rw [E.out], (by (with_reducible repeat' (first | exact .refl _ _ | assumption | refine bmP ?_ ?_ | refine baP ?_ _ ?_ | refine .drew ?_ | refine .setCell ?_ ?_ _ | refine bdP ?_ _)) <;> go_size)⟩
  · intro hv
    have h1 := hv.out
    rw [hD.out] at h1
    cases h1
set_option maxRecDepth 100000 in
set_option maxHeartbeats 4000000 in
theorem table_callNone (b : Nat) (tx : Int) (s : ByteArray) (hD0 : D1 50 s = false) (ok : Nat → Bool) (xs : List Arg) (A : Option Addr) (n c B : Nat) (w : World) (h : Ready w b) (hr : Reads w B 11 A n (argFlat xs)) (hm : n ≤ 1000000000000)
    (hmay : ∀ j a, xs[j]? = some a → ∀ w', Below w.heap.size w w' → Calls Tryz.prog 26 #[a.agg] w' fun e w'' => e = .returned (.bool (ok j)) ∧ Below w'.heap.size w' w'') :
    Calls Tryz.prog 8 #[.pointer (some ⟨b, 0, none⟩), .string s, .slice A n c, .int .i64 tx] w fun e w' => e = .returned (Value.agg #[Value.int .i64 (errG 8).tag, Value.int .i64 (errG 8).num, Value.string (errG 8).str, Value.bool (errG 8).is, Value.int .i64 (errG 8).code]) ∧ Below w.heap.size w w' := by
  have hD := Lib.hid hD0
  have hbl := h.lt
  have hlen : xs.length = n := by
    have := hr.1
    rw [argFlat_length] at this
    omega
  obtain ⟨cs, hcs⟩ : ∃ cs, cs = (xs.map Arg.many).map Value.bool := ⟨_, rfl⟩
  have hcl : cs.length = n := by rw [hcs]; simp [hlen]
  have hcx : ∀ (j : Nat) (x : Arg), xs[j]? = some x → cs[j]? = some (.bool x.many) := fun j x hx => by rw [hcs, List.getElem?_map, List.getElem?_map, hx]; rfl
  have HCX := Lib.hid hcx
  have HCS := Lib.hid hcs
  obtain ⟨okN, hok0, hokS, hokn⟩ : ∃ okN : Nat → Bool, okN 0 = true ∧ (∀ j, okN (j + 1) = (okN j && ok j)) ∧ okN n = (List.range xs.length).all ok := ⟨fun j => (List.range j).all ok, rfl, fun j => by simp only; rw [List.range_succ, List.all_append]; simp, by rw [hlen]⟩
  have HOK := Lib.hid hokS
  have HON := Lib.hid hokn
  have HM := Lib.hid hmay
  have HR := Lib.hid hr
  obtain ⟨d0, m, hd, h0, h3, hM⟩ := h
  have HMI := Lib.hid hM
  have hd0 := Lib.hid hd
  have hml := hM.lt
  clear hcx hokS hokn hcs hmay hr hM hd hD0
  obtain ⟨i0, hi, hz0, hz1, hz2⟩ := info_parts info_B
  go_enter Tryz.func8, Tryz.ntmps8
  go_wp2_with (first | (go_at_call 25; refine (table_allR b _ d0 m hd0.out (by go_simp) (by go_simp)).mono ?_; rintro e w1 ⟨rfl, hb⟩; obtain ⟨l, q, rfl⟩ := more_of_below hb; clear hb) | (at_lookup; refine wpList_lookI (HMI.out.below (by (with_reducible repeat' (first | exact .refl _ _ | assumption | refine bmP ?_ ?_ | refine baP ?_ _ ?_ | refine .drew ?_ | refine .setCell ?_ ?_ _ | refine bdP ?_ _)) <;> go_size)) _ _ rfl rfl rfl _ rfl ?_ ?_))
  · intro fn first cap fn1 first1 cap1 hv
    have h1 := hv.out.2
    rw [hD.out] at h1
    cases h1
  · go_loopw [23, 10, 11] (fun t o v wr => ∃ j : Nat, j ≤ n ∧ t = .int .i64 j ∧ o = .bool false ∧ GathRel ((more (w.alloc zeroV) l q).alloc funZ) wr 4 1 v j (cs.take j)) (fun t _ _ _ => n - (intOf t).toNat)
    case atStart => exact ⟨0, Nat.zero_le _, rfl, rfl, Below.refl _ _, World.ownsRow_nil _ _ _ _⟩
    case round =>
      obtain ⟨j, hj, rfl, rfl, hR⟩ := hrel
      have hw0 : Below w.heap.size w ((more (w.alloc zeroV) l q).alloc funZ) := (by (with_reducible repeat' (first | exact .refl _ _ | assumption | refine bmP ?_ ?_ | refine baP ?_ _ ?_ | refine .drew ?_ | refine .setCell ?_ ?_ _ | refine bdP ?_ _)) <;> go_size)
      have hwr : Below w.heap.size w wr := hw0.trans (hR.1.mono hw0.size)
      have hws := hwr.size
      by_cases hlt : j < n
      · obtain ⟨a, ha⟩ : ∃ a, xs[j]? = some a := ⟨_, List.getElem?_eq_getElem (show j < xs.length by omega)⟩
        obtain ⟨bk, off, rfl, _, hc⟩ := HR.out.2 (by omega)
        have hcell : ∀ i u, a.cells[i]? = some u → wr.cell? ⟨bk, off + (j * 11 + i), none⟩ = some u := fun i u hu => by
          have h1 := hc _ u (argFlat_at xs j a ha i u hu)
          exact (hwr.cell (p := ⟨bk, _, none⟩) (World.block_lt_of_cell? w _ h1)).trans h1
        have c0 := hcell 0 _ rfl
        have c1 := hcell 1 _ rfl
        have c2 := hcell 2 _ rfl
        have c3 := hcell 3 _ rfl
        have c4 := hcell 4 _ rfl
        have c5 := hcell 5 _ rfl
        have c6 := hcell 6 _ rfl
        have c7 := hcell 7 _ rfl
        have c8 := hcell 8 _ rfl
        have c9 := hcell 9 _ rfl
        have c10 := hcell 10 _ rfl
        simp only [← Nat.add_assoc, Nat.add_zero] at c0 c1 c2 c3 c4 c5 c6 c7 c8 c9 c10
        have HG := Lib.hid hR
        have HAJ := Lib.hid ha
        have HMH := Lib.hid (HM.out j a ha)
        clear hcell hR hc ha
        clear  h0 hw0
        go_wp2_with (first | (at_builtin; refine wpList_append_own _ rfl _ _ 34 rfl ((more (w.alloc zeroV) l q).alloc funZ).heap.size 4 i0 _ 1 1 Tryz.underlying34 hi hz0 hz1 hz2 rfl (by decide) _ _ _ rfl (own_below HG.out.2 (by (with_reducible repeat' (first | exact .refl _ _ | assumption | refine bmP ?_ ?_ | refine baP ?_ _ ?_ | refine .drew ?_ | refine .setCell ?_ ?_ _ | refine bdP ?_ _)) <;> go_size)) _ 1 1 [.bool a.many] rfl rfl ?_ ?_ ?_ ?_ ?_ ?_))
        · first | exact fun i u hu => fresh_cells (by simp) i u hu | exact fun i u hu => hu
        · intro u hu
          simp only [List.mem_cons, List.not_mem_nil, or_false] at hu
          subst hu
          rfl
        · simp only [maxLen]; omega
        · omega
        · have h1 := HG.out.1.size
          simp at h1 ⊢
          omega
        · intro v' w3 hown' hgrow _
          have R := GathRel.step HG.out (by (with_reducible repeat' (first | exact .refl _ _ | assumption | refine bmP ?_ ?_ | refine baP ?_ _ ?_ | refine .drew ?_ | refine .setCell ?_ ?_ _ | refine bdP ?_ _)) <;> go_size) (show w3.ownsRow ((more (w.alloc zeroV) l q).alloc funZ).heap.size 4 1 v' (j + 1) (cs.take j ++ [.bool a.many]) from by simpa using hown') hgrow
          rw [← take_one (HCX.out j a HAJ.out)] at R
          have HG' := Lib.hid R
          clear hown' hgrow R HG c0 c1 c2 c3 c4 c5 c6 c7 c8 c9 c10 hwr
          go_wp2
          go_roundw
          case rel => exact ⟨j + 1, by omega, by go_num, rfl, HG'.out⟩
          case measure => simp [intOf]; omega
      · obtain rfl : j = n := by omega
        obtain ⟨hB, hO⟩ := hR
        obtain ⟨l2, q2, rfl⟩ := more_of_below hB
        clear hO h0 hB hw0 hwr
        unfold zeroV funZ at *
        go_wp2_with (first | (go_at_call 27; refine (value_Err _ _).mono ?_; rintro e w1 ⟨rfl, hb⟩; obtain ⟨l3, q3, rfl⟩ := more_of_below hb; clear hb))
        all_goals go_returns
        all_goals exact ⟨rfl, (by (with_reducible repeat' (first | exact .refl _ _ | assumption | refine bmP ?_ ?_ | refine baP ?_ _ ?_ | refine .drew ?_ | refine .setCell ?_ ?_ _ | refine bdP ?_ _)) <;> go_size)⟩
end Go.Proofs.YtegbhdeaicgpkaaGreatDoor
namespace Go.Proofs.YtegbhdeaicgpkaaGreatDoor
open Go Go.RowKit
theorem ownTab_low {s : ByteArray} {x y : Int} {d : Doer} (h : ownTab s = some (x, y, d)) : 1 ≤ x := by
  unfold ownTab at h
  iterate 16
    rcases ite_some h with e | h
    · cases e; decide
  cases h
def callS (s : ByteArray) (vs : List V) (r : V) : V := if vs.all mayG && takesAll s (vs.map fun _ => false) then r else errG 8
theorem callG_single (s : ByteArray) (vs : List V) (r : V) : callG (fun a => mayG a.val) s (vs.map single) r = callS s vs r := by
  unfold callG callS
  rw [List.all_map, List.map_map]
  rfl
theorem vals_single (vs : List V) : (vs.map single).map Arg.val = vs := by
  rw [List.map_map]
  exact List.map_id _
theorem call_plain (b k : Nat) (hk : ∀ (args : Array Value) (w : World), Sem.run Tryz.prog (callFunc k args) w = .ok (.enter k args) w) (tx : Int) (s : ByteArray) (x y : Int) (ho : ownTab s = some (x, y, .plain k)) (vs : List V) (A : Option Addr) (n c B : Nat) (w : World) (h : Ready w b)
    (hr : Reads w B 11 A n (argFlat (vs.map single))) (hm : n ≤ 1000000000000) (r : V)
    (hd : ∀ w' g c', Below w.heap.size w w' → Held w' g vs → between x y n = true → vs.all mayG = true → Calls Tryz.prog k #[.slice (some ⟨g, 0, none⟩) n c'] w' fun e w'' => e = .returned (Value.agg #[Value.int .i64 r.tag, Value.int .i64 r.num, Value.string r.str, Value.bool r.is, Value.int .i64 r.code]) ∧ Below w'.heap.size w' w'') :
    Calls Tryz.prog 8 #[.pointer (some ⟨b, 0, none⟩), .string s, .slice A n c, .int .i64 tx] w fun e w' => e = .returned (Value.agg #[Value.int .i64 (callS s vs r).tag, Value.int .i64 (callS s vs r).num, Value.string (callS s vs r).str, Value.bool (callS s vs r).is, Value.int .i64 (callS s vs r).code]) ∧ Below w.heap.size w w' := by
  rw [← callG_single]
  refine table_CallOwn b tx s x y (.plain k) ho (fun a => mayG a.val) (vs.map single) A n c B w h hr hm (fun a ha w' _ => ?_) r (fun w' pd f hb hc hD hbt hall => ?_)
  · obtain ⟨v, _, rfl⟩ := List.mem_map.1 ha
    exact may_single v w'
  · have hx := ownTab_low ho
    have h0 : 0 < n := by
      simp only [between, Bool.and_eq_true, decide_eq_true_eq] at hbt
      omega
    have hf : f = .func (.func k) #[] #[] := hD
    subst hf
    refine gather0 pd k hk tx (vs.map single) A n c B w' hc ?_ hm h0 r fun w'' g c' hb' hH => ?_
    · exact hr.keeps (keeps_below hb)
    · rw [vals_single] at hH
      exact hd w'' g c' (hb.trans (hb'.mono hb.size)) hH hbt (by rw [List.all_map] at hall; exact hall)
set_option maxRecDepth 100000 in
theorem table_KnownR (b : Nat) (s : ByteArray) (w : World) (h : Ready w b) : Calls Tryz.prog 15 #[.pointer (some ⟨b, 0, none⟩), .string s] w fun e w' => e = .returned (.bool (D1 50 s)) ∧ Below w.heap.size w w' := by
  obtain ⟨d0, m, hd, h0, h3, hM⟩ := h
  have HMI := Lib.hid hM
  have hml := hM.lt
  have hbl := cell_lt h0
  clear hM
  go_enter Tryz.func15, Tryz.ntmps15
  go_wp2_with (first | (go_at_call 25; refine (table_allR b _ d0 m hd (by go_simp) (by go_simp)).mono ?_; rintro e w1 ⟨rfl, hb⟩; obtain ⟨l, q, rfl⟩ := more_of_below hb; clear hb) | (at_lookup; refine wpList_lookI (HMI.out.below (by (with_reducible repeat' (first | exact .refl _ _ | assumption | refine bmP ?_ ?_ | refine baP ?_ _ ?_ | refine .drew ?_ | refine .setCell ?_ ?_ _ | refine bdP ?_ _)) <;> go_size)) _ _ rfl rfl rfl _ rfl ?_ ?_))
  · intro fn first cap fn1 first1 cap1 hv
    go_wp2
    go_ret
    exact ⟨by rw [hv.out.2]; rfl, (by (with_reducible repeat' (first | exact .refl _ _ | assumption | refine bmP ?_ ?_ | refine baP ?_ _ ?_ | refine .drew ?_ | refine .setCell ?_ ?_ _ | refine bdP ?_ _)) <;> go_size)⟩
  · intro hv
    go_wp2
    go_ret
    exact ⟨by rw [hv.out]; rfl, (by (with_reducible repeat' (first | exact .refl _ _ | assumption | refine bmP ?_ ?_ | refine baP ?_ _ ?_ | refine .drew ?_ | refine .setCell ?_ ?_ _ | refine bdP ?_ _)) <;> go_size)⟩
theorem law_single (v : V) (w : World) : Calls Tryz.prog 23 #[(Value.agg #[Value.int .i64 v.tag, Value.int .i64 v.num, Value.string v.str, Value.bool v.is, Value.int .i64 v.code])] w fun e w' => e = .returned (.agg #[.bool false, .int .i64 v.tag, .int .i64 v.num, .string v.str, .bool v.is, .int .i64 v.code, .int .i64 0, .int .i64 0, .int .i64 0, .int .i64 0, .slice none 0 0]) ∧ Below w.heap.size w w' := by
  go_enter Tryz.func23, Tryz.ntmps23
  go_wp2
  go_returns
  exact ⟨rfl, (by (with_reducible repeat' (first | exact .refl _ _ | assumption | refine bmP ?_ ?_ | refine baP ?_ _ ?_ | refine .drew ?_ | refine .setCell ?_ ?_ _ | refine bdP ?_ _)) <;> go_size)⟩
theorem law_truth (b : Bool) (w : World) : Calls Tryz.prog 24 #[.bool b] w fun e w' => e = .returned (Value.agg #[Value.int .i64 (truthG b).tag, Value.int .i64 (truthG b).num, Value.string (truthG b).str, Value.bool (truthG b).is, Value.int .i64 (truthG b).code]) ∧ Below w.heap.size w w' := by
  go_enter Tryz.func24, Tryz.ntmps24
  go_wp2
  go_returns
  exact ⟨rfl, (by (with_reducible repeat' (first | exact .refl _ _ | assumption | refine bmP ?_ ?_ | refine baP ?_ _ ?_ | refine .drew ?_ | refine .setCell ?_ ?_ _ | refine bdP ?_ _)) <;> go_size)⟩
theorem reads_new {W : World} {cs : Array Value} {t : TypeId} {n size g B : Nat} {xs : List Value} (hg : g = W.heap.size) (hB : g < B) (hx : xs = cs.toList) (hl : xs.length = n * size) : Reads (W.alloc (.cells cs t)) B size (some ⟨g, 0, none⟩) n xs := by
  subst hg
  refine ⟨hl, fun _ => ⟨W.heap.size, 0, rfl, hB, fun j u hu => ?_⟩⟩
  rw [Nat.zero_add, cell_of_row (W.alloc (.cells cs t)) W.heap.size j cs t (0, 0) (heap_alloc_new W _)]
  subst hx
  simpa using hu
def oneV : V := ⟨1, 10000, ⟨#[]⟩, false, 0⟩
set_option maxRecDepth 100000 in
theorem known_if (b : Nat) (A : Option Addr) (c : Nat) (w : World) (h : Ready w b) (hr : Reads w w.heap.size 11 A 2 (argFlat ([truthG true, oneV].map single))) :
    Calls Tryz.prog 8 #[.pointer (some ⟨b, 0, none⟩), .string ⟨#[73, 70]⟩, .slice A 2 c, .int .i64 8] w fun e w' => e = .returned (.agg #[.int .i64 1, .int .i64 10000, .string ⟨#[]⟩, .bool false, .int .i64 0]) ∧ Below w.heap.size w w' := by
  have h1 := call_plain b 206 (fun _ _ => rfl) 8 ⟨#[73, 70]⟩ 2 3 rfl [truthG true, oneV] A 2 c _ w h hr (by decide) (choiceG [truthG true, oneV]) (fun w' g c' _ hH _ _ => funcs_choice2 _ _ g c' w' hH)
  have e : callS ⟨#[73, 70]⟩ [truthG true, oneV] (choiceG [truthG true, oneV]) = oneV := by decide +kernel
  rw [e] at h1
  exact h1
end Go.Proofs.YtegbhdeaicgpkaaGreatDoor
namespace Go.Proofs.YtegbhdeaicgpkaaGreatDoor
open Go Go.RowKit
theorem law_single1 (w : World) : Calls Tryz.prog 23 #[.agg #[.int .i64 1, .int .i64 10000, .string ⟨#[]⟩, .bool false, .int .i64 0]] w fun e w' => e = .returned (.agg #[.bool false, .int .i64 1, .int .i64 10000, .string ⟨#[]⟩, .bool false, .int .i64 0, .int .i64 0, .int .i64 0, .int .i64 0, .int .i64 0, .slice none 0 0]) ∧ Below w.heap.size w w' := law_single oneV w
theorem law_single2 (w : World) : Calls Tryz.prog 23 #[.agg #[.int .i64 3, .int .i64 0, .string ⟨#[]⟩, .bool true, .int .i64 0]] w fun e w' => e = .returned (.agg #[.bool false, .int .i64 3, .int .i64 0, .string ⟨#[]⟩, .bool true, .int .i64 0, .int .i64 0, .int .i64 0, .int .i64 0, .int .i64 0, .slice none 0 0]) ∧ Below w.heap.size w w' := law_single (truthG true) w
theorem law_truth1 (w : World) : Calls Tryz.prog 24 #[.bool true] w fun e w' => e = .returned (.agg #[.int .i64 3, .int .i64 0, .string ⟨#[]⟩, .bool true, .int .i64 0]) ∧ Below w.heap.size w w' := law_truth true w
set_option maxRecDepth 100000 in
set_option maxHeartbeats 2000000 in
theorem law_known (b : Nat) (w : World) (h : Ready w b) : Calls Tryz.prog 7 #[.pointer (some ⟨b, 0, none⟩)] w fun e w' => e = .returned (.bool true) ∧ Below w.heap.size w w' := by
  have hq : ∀ w, (binOp .eql 29 (.agg #[.int .i64 1, .int .i64 10000, .string ⟨#[]⟩, .bool false, .int .i64 0]) (.agg #[.int .i64 1, .int .i64 10000, .string ⟨#[]⟩, .bool false, .int .i64 0])).run Tryz.prog w = .ok (.bool true) w := fun w => by rw [eqlV]; simp [eqB]
  go_enter Tryz.func7, Tryz.ntmps7
  go_wp2
  go_region_held3 (fun w' => Ready w' b ∧ w'.cell? ⟨w.heap.size, 0, none⟩ = some (.int .i64 1) ∧ w'.cell? ⟨w.heap.size, 1, none⟩ = some (.int .i64 10000) ∧ w'.cell? ⟨w.heap.size, 2, none⟩ = some (.string ⟨#[]⟩) ∧ w'.cell? ⟨w.heap.size, 3, none⟩ = some (.bool false) ∧ w'.cell? ⟨w.heap.size, 4, none⟩ = some (.int .i64 0))
    (first | ((try dsimp only); refine ⟨?_, ?_, ?_, ?_, ?_, ?_⟩ <;> first | (exact h.below (by (with_reducible repeat' (first | exact .refl _ _ | assumption | refine bmP ?_ ?_ | refine baP ?_ _ ?_ | refine .drew ?_ | refine .setCell ?_ ?_ _ | refine bdP ?_ _)) <;> go_size)) | (go_simp; done)))
    (first | (go_at_call 24; refine (law_truth1 _).mono ?_; rintro e w1 ⟨rfl, hb⟩; obtain ⟨l, q, rfl⟩ := more_of_below hb; clear hb) | (go_at_call 23; refine (law_single2 _).mono ?_; rintro e w1 ⟨rfl, hb⟩; obtain ⟨l, q, rfl⟩ := more_of_below hb; clear hb) | (go_at_call 23; refine (law_single1 _).mono ?_; rintro e w1 ⟨rfl, hb⟩; obtain ⟨l, q, rfl⟩ := more_of_below hb; clear hb) | (go_at_call 8; refine (known_if b _ _ _ ?_ ?_).mono ?_; (exact h.below (by (with_reducible repeat' (first | exact .refl _ _ | assumption | refine bmP ?_ ?_ | refine baP ?_ _ ?_ | refine .drew ?_ | refine .setCell ?_ ?_ _ | refine bdP ?_ _)) <;> go_size)); (exact reads_new (by first | (simp; done) | (simp; omega)) (by first | (simp; done) | (simp; omega)) rfl rfl); rintro e w1 ⟨rfl, hb⟩; obtain ⟨l, q, rfl⟩ := more_of_below hb; clear hb) | (go_at_call 15; refine (table_KnownR b _ _ ?_).mono ?_; (exact h.below (by (with_reducible repeat' (first | exact .refl _ _ | assumption | refine bmP ?_ ?_ | refine baP ?_ _ ?_ | refine .drew ?_ | refine .setCell ?_ ?_ _ | refine bdP ?_ _)) <;> go_size)); rintro e w1 ⟨rfl, hb⟩; obtain ⟨l, q, rfl⟩ := more_of_below hb; clear hb))
  all_goals go_wp2
  all_goals go_ret
  all_goals exact ⟨rfl, (by (with_reducible repeat' (first | exact .refl _ _ | assumption | refine bmP ?_ ?_ | refine baP ?_ _ ?_ | refine .drew ?_ | refine .setCell ?_ ?_ _ | refine bdP ?_ _)) <;> go_size)⟩
end Go.Proofs.YtegbhdeaicgpkaaGreatDoor
namespace Go.Proofs.YtegbhdeaicgpkaaGreatDoor
open Go Go.RowKit
theorem call_plainF (b k : Nat) (hk : ∀ (args : Array Value) (w : World), Sem.run Tryz.prog (callFunc k args) w = .ok (.enter k args) w) (tx : Int) (s : ByteArray) (x y : Int) (ho : ownTab s = some (x, y, .plain k)) (vs : List V) (A : Option Addr) (n c B : Nat) (w : World) (h : TabOK w b)
    (hr : Reads w B 11 A n (argFlat (vs.map single))) (hap : Apart b A n) (hm : n ≤ 1000000000000) (r : V)
    (hd : ∀ w' g c', Turn b w w' → Held w' g vs → between x y n = true → vs.all mayG = true → Calls Tryz.prog k #[.slice (some ⟨g, 0, none⟩) n c'] w' fun e w'' => e = .returned (Value.agg #[Value.int .i64 r.tag, Value.int .i64 r.num, Value.string r.str, Value.bool r.is, Value.int .i64 r.code]) ∧ Below w'.heap.size w' w'') :
    Calls Tryz.prog 8 #[.pointer (some ⟨b, 0, none⟩), .string s, .slice A n c, .int .i64 tx] w fun e w' => e = .returned (Value.agg #[Value.int .i64 (callS s vs r).tag, Value.int .i64 (callS s vs r).num, Value.string (callS s vs r).str, Value.bool (callS s vs r).is, Value.int .i64 (callS s vs r).code]) ∧ Ready w' b ∧ Turn b w w' := by
  rw [← callG_single]
  refine table_CallOwnF b tx s x y (.plain k) ho (fun a => mayG a.val) (vs.map single) A n c B w h hr hap hm (fun a ha w' _ => ?_) r (fun w' pd f hb hc hD hbt hall => ?_)
  · obtain ⟨v, _, rfl⟩ := List.mem_map.1 ha
    exact may_single v w'
  · have hx := (ownTab_lows ho).1
    have h0 : 0 < n := by
      simp only [between, Bool.and_eq_true, decide_eq_true_eq] at hbt
      omega
    have hf : f = .func (.func k) #[] #[] := hD
    subst hf
    refine gather0 pd k hk tx (vs.map single) A n c B w' hc (hr.turn hap hb) hm h0 r fun w'' g c' hb' hH => ?_
    rw [vals_single] at hH
    exact hd w'' g c' (hb.trans (.of_below hb')) hH hbt (by rw [List.all_map] at hall; exact hall)
set_option maxRecDepth 100000 in
theorem known_ifF (b : Nat) (A : Option Addr) (c : Nat) (w : World) (h : TabOK w b) (hr : Reads w w.heap.size 11 A 2 (argFlat ([truthG true, oneV].map single))) (hap : Apart b A 2) :
    Calls Tryz.prog 8 #[.pointer (some ⟨b, 0, none⟩), .string ⟨#[73, 70]⟩, .slice A 2 c, .int .i64 8] w fun e w' => e = .returned (.agg #[.int .i64 1, .int .i64 10000, .string ⟨#[]⟩, .bool false, .int .i64 0]) ∧ Ready w' b ∧ Turn b w w' := by
  have h1 := call_plainF b 206 (fun _ _ => rfl) 8 ⟨#[73, 70]⟩ 2 3 rfl [truthG true, oneV] A 2 c _ w h hr hap (by decide) (choiceG [truthG true, oneV]) (fun w' g c' _ hH _ _ => funcs_choice2 _ _ g c' w' hH)
  have e : callS ⟨#[73, 70]⟩ [truthG true, oneV] (choiceG [truthG true, oneV]) = oneV := by decide +kernel
  rw [e] at h1
  exact h1
set_option maxRecDepth 100000 in
set_option maxHeartbeats 2000000 in
theorem law_knownF (b : Nat) (w : World) (h : TabOK w b) : Calls Tryz.prog 7 #[.pointer (some ⟨b, 0, none⟩)] w fun e w' => e = .returned (.bool true) ∧ Ready w' b ∧ Turn b w w' := by
  have hq : ∀ w, (binOp .eql 29 (.agg #[.int .i64 1, .int .i64 10000, .string ⟨#[]⟩, .bool false, .int .i64 0]) (.agg #[.int .i64 1, .int .i64 10000, .string ⟨#[]⟩, .bool false, .int .i64 0])).run Tryz.prog w = .ok (.bool true) w := fun w => by rw [eqlV]; simp [eqB]
  have hbl := h.lt
  have hne : w.heap.size ≠ b := by omega
  go_enter Tryz.func7, Tryz.ntmps7
  go_wp2
  go_region_held3 (fun w' => TabOK w' b ∧ w'.cell? ⟨w.heap.size, 0, none⟩ = some (.int .i64 1) ∧ w'.cell? ⟨w.heap.size, 1, none⟩ = some (.int .i64 10000) ∧ w'.cell? ⟨w.heap.size, 2, none⟩ = some (.string ⟨#[]⟩) ∧ w'.cell? ⟨w.heap.size, 3, none⟩ = some (.bool false) ∧ w'.cell? ⟨w.heap.size, 4, none⟩ = some (.int .i64 0))
    (first | ((try dsimp only); refine ⟨?_, ?_, ?_, ?_, ?_, ?_⟩ <;> first | (refine .inl (hR5.below ?_); (repeat (first | with_reducible exact Below.refl _ _ | with_reducible assumption | with_reducible refine bmP ?_ (by go_size) | with_reducible refine baP ?_ _ (by go_size) | with_reducible refine Below.drew ?_ | with_reducible refine Below.setCell ?_ (by go_size) _ | with_reducible refine bdP ?_ _)); done) | (refine h.below ?_; (repeat (first | with_reducible exact Below.refl _ _ | with_reducible assumption | with_reducible refine bmP ?_ (by go_size) | with_reducible refine baP ?_ _ (by go_size) | with_reducible refine Below.drew ?_ | with_reducible refine Below.setCell ?_ (by go_size) _ | with_reducible refine bdP ?_ _)); done) | (go_simp; done)))
    (first | (go_at_call 24; refine (law_truth1 _).mono ?_; rintro e w1 ⟨rfl, hb⟩; obtain ⟨l, q, rfl⟩ := more_of_below hb; clear hb) | (go_at_call 23; refine (law_single2 _).mono ?_; rintro e w1 ⟨rfl, hb⟩; obtain ⟨l, q, rfl⟩ := more_of_below hb; clear hb) | (go_at_call 23; refine (law_single1 _).mono ?_; rintro e w1 ⟨rfl, hb⟩; obtain ⟨l, q, rfl⟩ := more_of_below hb; clear hb) | (go_at_call 8; refine (known_ifF b _ _ _ ?_ ?_ ?_).mono ?_; (exact h.below (by (with_reducible repeat' (first | exact .refl _ _ | assumption | refine bmP ?_ ?_ | refine baP ?_ _ ?_ | refine .drew ?_ | refine .setCell ?_ ?_ _ | refine bdP ?_ _)) <;> go_size)); (exact reads_new (by first | (simp; done) | (simp; omega)) (by first | (simp; done) | (simp; omega)) rfl rfl); (exact fun _ p hp => by cases hp; first | omega | (simp; omega)); rintro e w5 ⟨rfl, hR5, hT5⟩; have z0 := hT5.cell hne (i := 0) (v := .int .i64 1) (by go_simp); have z1 := hT5.cell hne (i := 1) (v := .int .i64 10000) (by go_simp); have z2 := hT5.cell hne (i := 2) (v := .string ⟨#[]⟩) (by go_simp); have z3 := hT5.cell hne (i := 3) (v := .bool false) (by go_simp); have z4 := hT5.cell hne (i := 4) (v := .int .i64 0) (by go_simp); have hzl := cell_lt z0; replace hT5 := (show Turn b w _ from .of_below (by (with_reducible repeat' (first | exact .refl _ _ | assumption | refine bmP ?_ ?_ | refine baP ?_ _ ?_ | refine .drew ?_ | refine .setCell ?_ ?_ _ | refine bdP ?_ _)) <;> go_size)).trans hT5) | (go_at_call 15; refine (table_KnownR b _ _ ?_).mono ?_; (exact hR5.below (by (with_reducible repeat' (first | exact .refl _ _ | assumption | refine bmP ?_ ?_ | refine baP ?_ _ ?_ | refine .drew ?_ | refine .setCell ?_ ?_ _ | refine bdP ?_ _)) <;> go_size)); rintro e w1 ⟨rfl, hb⟩; obtain ⟨l, q, rfl⟩ := more_of_below hb; clear hb))
  all_goals go_wp2
  all_goals go_ret
  all_goals exact ⟨rfl, hR5.below (by (with_reducible repeat' (first | exact .refl _ _ | assumption | refine bmP ?_ ?_ | refine baP ?_ _ ?_ | refine .drew ?_ | refine .setCell ?_ ?_ _ | refine bdP ?_ _)) <;> go_size), hT5.trans (.of_below (by (with_reducible repeat' (first | exact .refl _ _ | assumption | refine bmP ?_ ?_ | refine baP ?_ _ ?_ | refine .drew ?_ | refine .setCell ?_ ?_ _ | refine bdP ?_ _)) <;> go_size))⟩
end Go.Proofs.YtegbhdeaicgpkaaGreatDoor
namespace Go.Proofs.YtegbhdeaicgpkaaGreatDoor
open Go Go.RowKit
theorem Turn.baseL {b B : Nat} {w w' : World} (h : Turn b w w') (hb : B ≤ b) (hB : B ≤ w.heap.size) : Below B w w' := ⟨h.1, h.2.1, h.2.2.1, h.2.2.2.1, fun k hk => h.2.2.2.2 k (by omega) (by omega)⟩
theorem eq_VV (v : V) (w : World) : (binOp .eql 29 (Value.agg #[Value.int .i64 v.tag, Value.int .i64 v.num, Value.string v.str, Value.bool v.is, Value.int .i64 v.code]) (Value.agg #[Value.int .i64 v.tag, Value.int .i64 v.num, Value.string v.str, Value.bool v.is, Value.int .i64 v.code])).run Tryz.prog w = .ok (.bool true) w := by rw [eqlV]; simp [eqB]
theorem law_Fault (c : Int) (w : World) : Calls Tryz.prog 16 #[.int .i64 c] w fun e w' => e = .returned (.agg #[.int .i64 4, .int .i64 0, .string ⟨#[]⟩, .bool false, .int .i64 c]) ∧ Below w.heap.size w w' := by
  go_enter Tryz.func16, Tryz.ntmps16
  go_wp2
  go_returns
  exact ⟨rfl, (by (with_reducible repeat' (first | exact .refl _ _ | assumption | refine bmP ?_ ?_ | refine baP ?_ _ ?_ | refine .drew ?_ | refine .setCell ?_ ?_ _ | refine bdP ?_ _)) <;> go_size)⟩
end Go.Proofs.YtegbhdeaicgpkaaGreatDoor
