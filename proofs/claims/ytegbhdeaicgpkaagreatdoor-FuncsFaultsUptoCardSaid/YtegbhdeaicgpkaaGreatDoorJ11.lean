/-
  Parts of a proof: Call, CallF.
-/
import Derived.Test.YtegbhdeaicgpkaaGreatDoorJ04
import Derived.Test.YtegbhdeaicgpkaaGreatDoorJ05
import Derived.Test.YtegbhdeaicgpkaaGreatDoorJ10
set_option linter.all false
namespace Go.Proofs.YtegbhdeaicgpkaaGreatDoor
open Go Go.RowKit
theorem ent_own {s : ByteArray} {fn fn1 : Fn} {first cap first1 cap1 : Array Value} {w : World} {x y : Int} {d : Doer} (h : EntE w s (.agg #[.func fn first cap, .func fn1 first1 cap1])) (ho : ownTab s = some (x, y, d)) :
    ∃ pl pm pd f, fn = .func 248 ∧ first = #[] ∧ cap = #[.pointer (some ⟨pl, 0, none⟩), .pointer (some ⟨pm, 0, none⟩)] ∧ fn1 = .func 249 ∧ first1 = #[] ∧ cap1 = #[.pointer (some ⟨pd, 0, none⟩)] ∧
      w.cell? ⟨pl, 0, none⟩ = some (.int .i64 x) ∧ w.cell? ⟨pm, 0, none⟩ = some (.int .i64 y) ∧ w.cell? ⟨pd, 0, none⟩ = some f ∧ DoOK w f d := by
  rcases h with ⟨x', y', d', e1, pl, pm, pd, f, ev, h1, h2, h3, h4⟩ | ⟨i, e1, _⟩
  · rw [ho] at e1
    cases e1
    injection ev with ev
    cases ev
    exact ⟨pl, pm, pd, f, rfl, rfl, rfl, rfl, rfl, rfl, h1, h2, h3, h4⟩
  · rw [own_lay s ho] at e1
    cases e1
theorem all_take {α : Type} {xs : List α} {k : Nat} {a : α} (h : xs[k]? = some a) (f : α → Bool) : (xs.take (k + 1)).all f = ((xs.take k).all f && f a) := by
  rw [take_one h]
  simp
def callG (ok : Arg → Bool) (s : ByteArray) (xs : List Arg) (r : V) : V := if xs.all ok && takesAll s (xs.map Arg.many) then r else errG 8
theorem table_allR (b : Nat) (w : World) (d : Int) (m : Nat) (hd : ¬ d = 0) (h0 : w.cell? ⟨b, 0, none⟩ = some (.int .u32 d)) (h3 : w.cell? ⟨b, 3, none⟩ = some (.map (some m))) : Calls Tryz.prog 25 #[.pointer (some ⟨b, 0, none⟩)] w fun e w' => e = .returned (.map (some m)) ∧ Below w.heap.size w w' := by
  have hmf : ∀ (fn : Fn) (first cap : Array Value) (w : World), (Instr.makeFunc fn first cap).run Tryz.prog w = .ok (.func fn first cap) w := fun _ _ _ _ => rfl
  have hlt := cell_lt h0
  go_enter Tryz.func25, Tryz.ntmps25
  go_wp2_with (first | (go_at_call 47; refine (once_done ⟨b, 0, none⟩ d hd _ _ (by go_simp)).mono ?_; rintro e w1 ⟨rfl, rfl⟩))
  go_ret
  exact ⟨rfl, (by (with_reducible repeat' (first | exact .refl _ _ | assumption | refine bmP ?_ ?_ | refine baP ?_ _ ?_ | refine .drew ?_ | refine .setCell ?_ ?_ _ | refine bdP ?_ _)) <;> go_size)⟩
theorem own_slice {w : World} {base e size n : Nat} {v : Value} {xs : List Value} (h : w.ownsRow base e size v n xs) : ∃ A c, v = .slice A n c := by
  rcases h.2 with ⟨h1, h2⟩ | ⟨g, cap, cur, e1, _⟩
  · subst h2; exact ⟨_, _, h1⟩
  · exact ⟨_, _, e1⟩
def funO (pl pm pd : Nat) : Obj := .cells #[.func (.func 248) #[] #[.pointer (some ⟨pl, 0, none⟩), .pointer (some ⟨pm, 0, none⟩)], .func (.func 249) #[] #[.pointer (some ⟨pd, 0, none⟩)]] 87
set_option maxRecDepth 100000 in
set_option maxHeartbeats 4000000 in
theorem table_CallOwn (b : Nat) (tx : Int) (s : ByteArray) (x y : Int) (d : Doer) (ho : ownTab s = some (x, y, d)) (ok : Arg → Bool) (xs : List Arg) (A : Option Addr) (n c B : Nat) (w : World) (h : Ready w b) (hr : Reads w B 11 A n (argFlat xs)) (hm : n ≤ 1000000000000)
    (hmay : ∀ a ∈ xs, ∀ w', Below w.heap.size w w' → Calls Tryz.prog 26 #[a.agg] w' fun e w'' => e = .returned (.bool (ok a)) ∧ Below w'.heap.size w' w'') (r : V)
    (hdo : ∀ w' pd f, Below w.heap.size w w' → w'.cell? ⟨pd, 0, none⟩ = some f → DoOK w' f d → between x y n = true → xs.all ok = true → Calls Tryz.prog 249 #[.slice A n c, .int .i64 tx, .pointer (some ⟨pd, 0, none⟩)] w' fun e w'' => e = .returned (Value.agg #[Value.int .i64 r.tag, Value.int .i64 r.num, Value.string r.str, Value.bool r.is, Value.int .i64 r.code]) ∧ Below w'.heap.size w' w'') :
    Calls Tryz.prog 8 #[.pointer (some ⟨b, 0, none⟩), .string s, .slice A n c, .int .i64 tx] w fun e w' => e = .returned (Value.agg #[Value.int .i64 (callG ok s xs r).tag, Value.int .i64 (callG ok s xs r).num, Value.string (callG ok s xs r).str, Value.bool (callG ok s xs r).is, Value.int .i64 (callG ok s xs r).code]) ∧ Below w.heap.size w w' := by
  have hbl := h.lt
  have hlen : xs.length = n := by
    have := hr.1
    rw [argFlat_length] at this
    omega
  have hD := Lib.hid (show D1 50 s = true by simp [D1, own_known s ho])
  obtain ⟨cs, hcs⟩ : ∃ cs, cs = (xs.map Arg.many).map Value.bool := ⟨_, rfl⟩
  have hcl : cs.length = n := by rw [hcs]; simp [hlen]
  have hcx : ∀ (j : Nat) (x : Arg), xs[j]? = some x → cs[j]? = some (.bool x.many) := fun j x hx => by rw [hcs, List.getElem?_map, List.getElem?_map, hx]; rfl
  have HCX := Lib.hid hcx
  have HCS := Lib.hid hcs
  obtain ⟨okN, hok0, hokS, hokn⟩ : ∃ okN : Nat → Bool, okN 0 = true ∧ (∀ (j : Nat) (x : Arg), xs[j]? = some x → okN (j + 1) = (okN j && ok x)) ∧ okN n = xs.all ok := ⟨fun j => (xs.take j).all ok, rfl, fun j x hx => all_take hx ok, by simp only; rw [List.take_of_length_le (by omega)]⟩
  have HOK := Lib.hid hokS
  have HON := Lib.hid hokn
  have HM := Lib.hid hmay
  have HDO := Lib.hid hdo
  have HR := Lib.hid hr
  obtain ⟨d0, m, hd, h0, h3, hM⟩ := h
  have HMI := Lib.hid hM
  have hd0 := Lib.hid hd
  have hml := hM.lt
  clear hcx hokS hokn hcs hmay hdo hr hM hd
  obtain ⟨i0, hi, hz0, hz1, hz2⟩ := info_parts info_B
  go_enter Tryz.func8, Tryz.ntmps8
  go_wp2_with (first | (go_at_call 25; refine (table_allR b _ d0 m hd0.out (by go_simp) (by go_simp)).mono ?_; rintro e w1 ⟨rfl, hb⟩; obtain ⟨l, q, rfl⟩ := more_of_below hb; clear hb) | (at_lookup; refine wpList_lookI (HMI.out.below (by (with_reducible repeat' (first | exact .refl _ _ | assumption | refine bmP ?_ ?_ | refine baP ?_ _ ?_ | refine .drew ?_ | refine .setCell ?_ ?_ _ | refine bdP ?_ _)) <;> go_size)) _ _ rfl rfl rfl _ rfl ?_ ?_))
  · intro fn first cap fn1 first1 cap1 hv
    obtain ⟨pl, pm, pd, f, rfl, rfl, rfl, rfl, rfl, rfl, h1, h2, h3, h4⟩ := ent_own hv.out.1 ho
    clear hv
    go_wp2
    go_loopw [23, 10, 11] (fun t o v wr => ∃ j : Nat, j ≤ n ∧ t = .int .i64 j ∧ o = .bool (okN j) ∧ GathRel ((more (w.alloc zeroV) l q).alloc (funO pl pm pd)) wr 4 1 v j (cs.take j)) (fun t _ _ _ => n - (intOf t).toNat)
    case atStart => exact ⟨0, Nat.zero_le _, rfl, by rw [hok0], Below.refl _ _, World.ownsRow_nil _ _ _ _⟩
    case round =>
      obtain ⟨j, hj, rfl, rfl, hR⟩ := hrel
      have hw0 : Below w.heap.size w ((more (w.alloc zeroV) l q).alloc (funO pl pm pd)) := (by (with_reducible repeat' (first | exact .refl _ _ | assumption | refine bmP ?_ ?_ | refine baP ?_ _ ?_ | refine .drew ?_ | refine .setCell ?_ ?_ _ | refine bdP ?_ _)) <;> go_size)
      have hwr : Below w.heap.size w wr := hw0.trans (hR.1.mono hw0.size)
      have hws := hwr.size
      by_cases hlt : j < n
      · obtain ⟨a, ha⟩ : ∃ a, xs[j]? = some a := ⟨_, List.getElem?_eq_getElem (show j < xs.length by omega)⟩
        obtain ⟨bk, off, rfl, _, hc⟩ := HR.out.2 (by omega)
        have hcell : ∀ i u, a.cells[i]? = some u → wr.cell? ⟨bk, off + (j * 11 + i), none⟩ = some u := fun i u hu => by
          have h1 := hc _ u (argFlat_at xs j a ha i u hu)
          exact (hwr.cell (p := ⟨bk, _, none⟩) (World.block_lt_of_cell? w _ h1)).trans h1
        have c0 := hcell 0 _ rfl
        have c1 := hcell 1 _ rfl
        have c2 := hcell 2 _ rfl
        have c3 := hcell 3 _ rfl
        have c4 := hcell 4 _ rfl
        have c5 := hcell 5 _ rfl
        have c6 := hcell 6 _ rfl
        have c7 := hcell 7 _ rfl
        have c8 := hcell 8 _ rfl
        have c9 := hcell 9 _ rfl
        have c10 := hcell 10 _ rfl
        simp only [← Nat.add_assoc, Nat.add_zero] at c0 c1 c2 c3 c4 c5 c6 c7 c8 c9 c10
        have HG := Lib.hid hR
        have hmem := Lib.hid (List.mem_of_getElem? ha)
        have HMA := HM.out a hmem.out
        have HMH := Lib.hid HMA
        clear hcell hR hc HMA h1 h2 h3 h4 h0 hw0
        cases hokj : okN j
        · have hoj := HOK.out j a ha
          rw [hokj] at hoj
          go_wp2_with (first | (at_builtin; refine wpList_append_own _ rfl _ _ 34 rfl ((more (w.alloc zeroV) l q).alloc (funO pl pm pd)).heap.size 4 i0 _ 1 1 Tryz.underlying34 hi hz0 hz1 hz2 rfl (by decide) _ _ _ rfl (own_below HG.out.2 (by (with_reducible repeat' (first | exact .refl _ _ | assumption | refine bmP ?_ ?_ | refine baP ?_ _ ?_ | refine .drew ?_ | refine .setCell ?_ ?_ _ | refine bdP ?_ _)) <;> go_size)) _ 1 1 [.bool a.many] rfl rfl ?_ ?_ ?_ ?_ ?_ ?_))
          · exact fun i u hu => fresh_cells (by simp) i u hu
          · intro u hu
            simp only [List.mem_cons, List.not_mem_nil, or_false] at hu
            subst hu
            rfl
          · simp only [maxLen]; omega
          · omega
          · have h1 := HG.out.1.size
            simp at h1 ⊢
            omega
          · intro v' w3 hown' hgrow _
            have R := GathRel.step HG.out (by (with_reducible repeat' (first | exact .refl _ _ | assumption | refine bmP ?_ ?_ | refine baP ?_ _ ?_ | refine .drew ?_ | refine .setCell ?_ ?_ _ | refine bdP ?_ _)) <;> go_size) (show w3.ownsRow ((more (w.alloc zeroV) l q).alloc (funO pl pm pd)).heap.size 4 1 v' (j + 1) (cs.take j ++ [.bool a.many]) from by simpa using hown') hgrow
            rw [← take_one (HCX.out j a ha)] at R
            have HG' := Lib.hid R
            have HJ := Lib.hid hoj
            clear hown' hgrow R HG c0 c1 c2 c3 c4 c5 c6 c7 c8 c9 c10 hokj hoj hwr
            go_wp2
            go_roundw
            case rel => exact ⟨j + 1, by omega, by go_num, by rw [HJ.out]; rfl, HG'.out⟩
            case measure => simp [intOf]; omega
        · have hoj := HOK.out j a ha
          rw [hokj] at hoj
          go_wp2_with (first | (go_at_call 26; refine (HMH.out _ (by (with_reducible repeat' (first | exact .refl _ _ | assumption | refine bmP ?_ ?_ | refine baP ?_ _ ?_ | refine .drew ?_ | refine .setCell ?_ ?_ _ | refine bdP ?_ _)) <;> go_size)).mono ?_; rintro e w2 ⟨rfl, hb⟩; obtain ⟨l2, q2, rfl⟩ := more_of_below hb; clear hb) | (at_builtin; refine wpList_append_own _ rfl _ _ 34 rfl ((more (w.alloc zeroV) l q).alloc (funO pl pm pd)).heap.size 4 i0 _ 1 1 Tryz.underlying34 hi hz0 hz1 hz2 rfl (by decide) _ _ _ rfl (own_below HG.out.2 (by (with_reducible repeat' (first | exact .refl _ _ | assumption | refine bmP ?_ ?_ | refine baP ?_ _ ?_ | refine .drew ?_ | refine .setCell ?_ ?_ _ | refine bdP ?_ _)) <;> go_size)) _ 1 1 [.bool a.many] rfl rfl ?_ ?_ ?_ ?_ ?_ ?_))
          · exact fun i u hu => fresh_cells (by simp) i u hu
          · intro u hu
            simp only [List.mem_cons, List.not_mem_nil, or_false] at hu
            subst hu
            rfl
          · simp only [maxLen]; omega
          · omega
          · have h1 := HG.out.1.size
            simp at h1 ⊢
            omega
          · intro v' w3 hown' hgrow _
            have R := GathRel.step HG.out (by (with_reducible repeat' (first | exact .refl _ _ | assumption | refine bmP ?_ ?_ | refine baP ?_ _ ?_ | refine .drew ?_ | refine .setCell ?_ ?_ _ | refine bdP ?_ _)) <;> go_size) (show w3.ownsRow ((more (w.alloc zeroV) l q).alloc (funO pl pm pd)).heap.size 4 1 v' (j + 1) (cs.take j ++ [.bool a.many]) from by simpa using hown') hgrow
            rw [← take_one (HCX.out j a ha)] at R
            have HG' := Lib.hid R
            have HJ := Lib.hid hoj
            clear hown' hgrow R HG c0 c1 c2 c3 c4 c5 c6 c7 c8 c9 c10 hokj hoj hwr
            go_wp2
            go_roundw
            case rel => exact ⟨j + 1, by omega, by go_num, by rw [HJ.out]; rfl, HG'.out⟩
            case measure => simp [intOf]; omega
      · obtain rfl : j = n := by omega
        rw [List.take_of_length_le (by omega)] at hR
        obtain ⟨hB, hO⟩ := hR
        have hkw : Keeps (more (w.alloc zeroV) l q) wr := Keeps.trans (by repeat (first | with_reducible exact keeps_refl _ | with_reducible assumption | with_reducible refine keeps_alloc ?_ _ | with_reducible refine keeps_more ?_ _ _ | with_reducible refine keeps_drew ?_ | with_reducible refine keeps_drewN ?_ _)) (keeps_below hB)
        have h1' := hkw.cell _ _ _ h1
        have h2' := hkw.cell _ _ _ h2
        have h3' := hkw.cell _ _ _ h3
        have h4' := h4.keeps hkw
        have HPL := Lib.hid h1'
        have HPM := Lib.hid h2'
        have HPD := Lib.hid h3'
        have HOK' := Lib.hid h4'
        obtain ⟨xsB, hxb⟩ : ∃ xsB, xsB = xs.map Arg.many := ⟨_, rfl⟩
        rw [HCS.out, ← hxb] at hO
        obtain ⟨A', c', rfl⟩ := own_slice hO
        have HRD := Lib.hid (Reads.of_own hO)
        have hbn : xsB.length = j := by rw [hxb, List.length_map, hlen]
        have htl : takesAll s (xs.map Arg.many) = (between x y j && !hasTrue xsB) := by rw [← hxb]; simp [takesAll, ho, hbn]
        have hpd := World.block_lt_of_cell? _ _ h3'
        obtain ⟨l2, q2, rfl⟩ := more_of_below hB
        clear h1 h2 h3 h4 h1' h2' h4' hkw hO h0 hB
        unfold zeroV funO at *
        cases hokj : okN j
        · have e : callG ok s xs r = errG 8 := by
            have h1 := HON.out
            rw [hokj] at h1
            simp [callG, ← h1]
          have E := Lib.hid e
          clear e HDO
          go_wp2_with (first | (go_at_call 27; refine (value_Err _ _).mono ?_; rintro e w1 ⟨rfl, hb⟩; obtain ⟨l3, q3, rfl⟩ := more_of_below hb; clear hb))
          all_goals go_returns
          exact ⟨by rw [E.out], (by (with_reducible repeat' (first | exact .refl _ _ | assumption | refine bmP ?_ ?_ | refine baP ?_ _ ?_ | refine .drew ?_ | refine .setCell ?_ ?_ _ | refine bdP ?_ _)) <;> go_size)⟩
        · have h1 := HON.out
          rw [hokj] at h1
          cases htk : (between x y j && !hasTrue xsB)
          · have e : callG ok s xs r = errG 8 := by
              rw [htk] at htl
              simp [callG, htl]
            have E := Lib.hid e
            clear e HDO h1 htl
            go_wp2_with (first | (go_at_call 27; refine (value_Err _ _).mono ?_; rintro e w1 ⟨rfl, hb⟩; obtain ⟨l3, q3, rfl⟩ := more_of_below hb; clear hb) | (go_at_call 248; refine (singles1 pl pm x y A' j c' xsB _ _ (HPL.out) (HPM.out) HRD.out (by omega)).mono ?_; rintro e w4 ⟨rfl, hb⟩; rw [htk]; obtain ⟨l4, q4, rfl⟩ := more_of_below hb; clear hb))
            all_goals go_returns
            exact ⟨by rw [E.out], (by (with_reducible repeat' (first | exact .refl _ _ | assumption | refine bmP ?_ ?_ | refine baP ?_ _ ?_ | refine .drew ?_ | refine .setCell ?_ ?_ _ | refine bdP ?_ _)) <;> go_size)⟩
          · have e : callG ok s xs r = r := by
              rw [htk] at htl
              simp [callG, htl, ← h1]
            have E := Lib.hid e
            have hbt : between x y j = true := by
              cases h2 : between x y j
              · rw [h2] at htk; cases htk
              · rfl
            have HDC := Lib.hid (fun w' pd f h2 h3 h4 => HDO.out w' pd f h2 h3 h4 hbt h1.symm)
            clear e HDO h1 htl hbt
            go_wp2_with (first | (go_at_call 248; refine (singles1 pl pm x y A' j c' xsB _ _ (HPL.out) (HPM.out) HRD.out (by omega)).mono ?_; rintro e w4 ⟨rfl, hb⟩; rw [htk]; obtain ⟨l4, q4, rfl⟩ := more_of_below hb; clear hb) | (go_at_call 249; refine Calls.mono (HDC.out _ pd f ?_ ?_ ?_) ?_; (exact (by (with_reducible repeat' (first | exact .refl _ _ | assumption | refine bmP ?_ ?_ | refine baP ?_ _ ?_ | refine .drew ?_ | refine .setCell ?_ ?_ _ | refine bdP ?_ _)) <;> go_size)); (rw [← more_more (l := l2) (n := q2)]; exact (keeps_more (keeps_refl _) _ _).cell _ _ _ HPD.out); (rw [← more_more (l := l2) (n := q2)]; exact HOK'.out.keeps (keeps_more (keeps_refl _) _ _)); rintro e w5 ⟨rfl, hb⟩; obtain ⟨l5, q5, rfl⟩ := more_of_below hb; clear hb))
            all_goals go_returns
            exact ⟨by rw [E.out], (by (with_reducible repeat' (first | exact .refl _ _ | assumption | refine bmP ?_ ?_ | refine baP ?_ _ ?_ | refine .drew ?_ | refine .setCell ?_ ?_ _ | refine bdP ?_ _)) <;> go_size)⟩
  · intro hv
    have h1 := hv.out
    rw [hD.out] at h1
    cases h1
end Go.Proofs.YtegbhdeaicgpkaaGreatDoor
namespace Go.Proofs.YtegbhdeaicgpkaaGreatDoor
open Go Go.RowKit
theorem ownTab_lows {s : ByteArray} {x y : Int} {d : Doer} (h : ownTab s = some (x, y, d)) : 1 ≤ x ∧ 1 ≤ y := by
  unfold ownTab at h
  iterate 16
    rcases ite_some h with e | h
    · cases e; decide
  cases h
section
variable {w w' : World} {N : Nat}
theorem zero_cell (hZ : w.heap[N]? = some zeroV) : w.cell? ⟨N, 0, none⟩ = some (.int .i64 0) := cell_blk (i := 0) hZ rfl
theorem zero_cell1 (hZ : w.heap[N]? = some zeroV) : w.cell? ⟨N, 1, none⟩ = some (.int .i64 0) := cell_blk (i := 1) hZ rfl
theorem ne_zero {p : Nat} {u : Value} (hZ : w.heap[N]? = some zeroV) (h : w.cell? ⟨p, 0, none⟩ = some u) (hu : u ≠ .int .i64 0) : p ≠ N := fun e => by
  subst e
  rw [zero_cell hZ] at h
  exact hu (Option.some.inj h).symm
theorem keep_ne (hk : ∀ k, k < w.heap.size → k ≠ N → w'.heap[k]? = w.heap[k]?) {p i : Nat} {u : Value} (h : w.cell? ⟨p, i, none⟩ = some u) (hp : p ≠ N) : w'.cell? ⟨p, i, none⟩ = some u :=
  (World.cell?_of_block (a := ⟨p, i, none⟩) (hk p (World.block_lt_of_cell? w _ h) hp)).trans h
theorem DoOK.func {f : Value} {d : Doer} (h : DoOK w f d) : f ≠ .int .i64 0 := by
  cases d with
  | plain k => cases h; exact fun e => by cases e
  | truths k => obtain ⟨p, h1, _⟩ := h; cases h1; exact fun e => by cases e
  | tagged t => obtain ⟨p, h1, _⟩ := h; cases h1; exact fun e => by cases e
theorem DoOK.zero {f : Value} {d : Doer} (h : DoOK w f d) (hZ : w.heap[N]? = some zeroV) (hs : w.heap.size ≤ w'.heap.size) (hk : ∀ k, k < w.heap.size → k ≠ N → w'.heap[k]? = w.heap[k]?) : DoOK w' f d := by
  cases d with
  | plain k => exact h
  | truths k =>
    obtain ⟨p, h1, h2⟩ := h
    exact ⟨p, h1, keep_ne hk h2 (ne_zero hZ h2 (fun e => by cases e))⟩
  | tagged t =>
    obtain ⟨p, h1, h2, h3⟩ := h
    have hp : p ≠ N := fun e => by
      subst e
      have := h3.2 1 _ (zero_cell1 hZ)
      omega
    exact ⟨p, h1, keep_ne hk h2 hp, h3.of_block hs (hk p h3.1 hp)⟩
theorem EntE.zero {s : ByteArray} {v : Value} (h : EntE w s v) (hZ : w.heap[N]? = some zeroV) (hs : w.heap.size ≤ w'.heap.size) (hk : ∀ k, k < w.heap.size → k ≠ N → w'.heap[k]? = w.heap[k]?) : EntE w' s v := by
  rcases h with ⟨x, y, d, e, pl, pm, pd, f, ev, h1, h2, h3, h4⟩ | ⟨i, e, pb, pn, ev, h0, h1, h2, h3⟩
  · have hl := ownTab_lows e
    refine .inl ⟨x, y, d, e, pl, pm, pd, f, ev, keep_ne hk h1 (ne_zero hZ h1 ?_), keep_ne hk h2 (ne_zero hZ h2 ?_), keep_ne hk h3 (ne_zero hZ h3 h4.func), h4.zero hZ hs hk⟩
    · intro e1; injection e1 with _ e1; omega
    · intro e1; injection e1 with _ e1; omega
  · have hp := ne_zero hZ h0 (fun e => by cases e)
    exact .inr ⟨i, e, pb, pn, ev, keep_ne hk h0 hp, keep_ne hk h1 hp, keep_ne hk h2 hp, keep_ne hk h3 (ne_zero hZ h3 (fun e => by cases e))⟩
theorem MapInv.zero {m : Nat} (h : MapInv w m) (hZ : w.heap[N]? = some zeroV) (hs : w.heap.size ≤ w'.heap.size) (hk : ∀ k, k < w.heap.size → k ≠ N → w'.heap[k]? = w.heap[k]?) : MapInv w' m := by
  have hl := h.lt
  obtain ⟨L, h3, h4, h5⟩ := h
  have hm : m ≠ N := fun e => by
    subst e
    rw [hZ] at h3
    cases h3
  exact ⟨L, (hk m hl hm).trans h3, fun s v hv => (h4 s v hv).zero hZ hs hk, h5⟩
theorem Ready.zero {b : Nat} (h : Ready w b) (hZ : w.heap[N]? = some zeroV) (hs : w.heap.size ≤ w'.heap.size) (hk : ∀ k, k < w.heap.size → k ≠ N → w'.heap[k]? = w.heap[k]?) : Ready w' b := by
  obtain ⟨d, m, hd, h0, h3, hM⟩ := h
  have hb := ne_zero hZ h0 (fun e => by cases e)
  exact ⟨d, m, hd, keep_ne hk h0 hb, keep_ne hk h3 hb, hM.zero hZ hs hk⟩
end
theorem more_alloc_ne {wB : World} {o o' : Obj} {l : List Obj} {q k : Nat} (hk : k ≠ wB.heap.size) : (more (wB.alloc o') l q).heap[k]? = (more (wB.alloc o) l q).heap[k]? := by
  by_cases h : k < wB.heap.size + 1
  · rw [more_block (by simpa using h), more_block (by simpa using h)]
    have h1 : k < wB.heap.size := by omega
    rw [Below.heap_alloc wB o' k h1, Below.heap_alloc wB o k h1]
  · unfold more
    simp only
    rw [Array.getElem?_append_right (by simp; omega), Array.getElem?_append_right (by simp; omega)]
    simp
theorem ready_end {wB : World} {o' : Obj} {l : List Obj} {q b : Nat} (h : Ready (more (wB.alloc zeroV) l q) b) : Ready (more (wB.alloc o') l q) b :=
  h.zero (N := wB.heap.size) (by rw [more_block (by simp)]; exact heap_alloc_new wB zeroV) (by simp) (fun k _ hk => more_alloc_ne hk)
theorem turn_split {w w1 : World} {b : Nat} {o : Obj} (hb : b < w.heap.size) (h : Turn b (w.alloc o) w1) : ∃ wB l q, wB.heap.size = w.heap.size ∧ Turn b w wB ∧ w1 = more (wB.alloc o) l q := by
  obtain ⟨h1, h2, h3, h4, h5⟩ := h
  have hs : w.heap.size + 1 ≤ w1.heap.size := by simpa using h4
  let wB : World := { w with heap := (w1.heap.toList.take w.heap.size).toArray }
  have hB : wB.heap.size = w.heap.size := by simp [wB]; omega
  have hBk : ∀ k, k < w.heap.size → wB.heap[k]? = w1.heap[k]? := fun k hk => by simp [wB, List.getElem?_take, hk]
  have hbel : Below (wB.alloc o).heap.size (wB.alloc o) w1 := by
    refine ⟨h1, h2, h3, by simp [hB]; omega, fun k hk => ?_⟩
    have hk' : k < w.heap.size + 1 := by simpa [hB] using hk
    by_cases e : k < w.heap.size
    · rw [Below.heap_alloc wB o k (by omega), hBk k e]
    · have e2 : k = w.heap.size := by omega
      subst e2
      rw [h5 _ (by simp) (by omega), heap_alloc_new w o]
      have := heap_alloc_new wB o
      rw [hB] at this
      exact this.symm
  obtain ⟨l, q, e⟩ := more_of_below hbel
  refine ⟨wB, l, q, hB, ⟨rfl, rfl, rfl, Nat.le_of_eq hB.symm, fun k hk hkb => ?_⟩, e⟩
  rw [hBk k hk, h5 k (by simp; omega) hkb, Below.heap_alloc w o k hk]
set_option maxRecDepth 100000 in
set_option maxHeartbeats 4000000 in
theorem table_CallOwnF (b : Nat) (tx : Int) (s : ByteArray) (x y : Int) (d : Doer) (ho : ownTab s = some (x, y, d)) (ok : Arg → Bool) (xs : List Arg) (A : Option Addr) (n c B : Nat) (w : World) (h : TabOK w b) (hr : Reads w B 11 A n (argFlat xs)) (hap : Apart b A n) (hm : n ≤ 1000000000000)
    (hmay : ∀ a ∈ xs, ∀ w', Turn b w w' → Calls Tryz.prog 26 #[a.agg] w' fun e w'' => e = .returned (.bool (ok a)) ∧ Below w'.heap.size w' w'') (r : V)
    (hdo : ∀ w' pd f, Turn b w w' → w'.cell? ⟨pd, 0, none⟩ = some f → DoOK w' f d → between x y n = true → xs.all ok = true → Calls Tryz.prog 249 #[.slice A n c, .int .i64 tx, .pointer (some ⟨pd, 0, none⟩)] w' fun e w'' => e = .returned (Value.agg #[Value.int .i64 r.tag, Value.int .i64 r.num, Value.string r.str, Value.bool r.is, Value.int .i64 r.code]) ∧ Below w'.heap.size w' w'') :
    Calls Tryz.prog 8 #[.pointer (some ⟨b, 0, none⟩), .string s, .slice A n c, .int .i64 tx] w fun e w' => e = .returned (Value.agg #[Value.int .i64 (callG ok s xs r).tag, Value.int .i64 (callG ok s xs r).num, Value.string (callG ok s xs r).str, Value.bool (callG ok s xs r).is, Value.int .i64 (callG ok s xs r).code]) ∧ Ready w' b ∧ Turn b w w' := by
  have hbl := h.lt
  have hlen : xs.length = n := by
    have := hr.1
    rw [argFlat_length] at this
    omega
  have hD := Lib.hid (show D1 50 s = true by simp [D1, own_known s ho])
  obtain ⟨cs, hcs⟩ : ∃ cs, cs = (xs.map Arg.many).map Value.bool := ⟨_, rfl⟩
  have hcl : cs.length = n := by rw [hcs]; simp [hlen]
  have hcx : ∀ (j : Nat) (x : Arg), xs[j]? = some x → cs[j]? = some (.bool x.many) := fun j x hx => by rw [hcs, List.getElem?_map, List.getElem?_map, hx]; rfl
  have HCX := Lib.hid hcx
  have HCS := Lib.hid hcs
  obtain ⟨okN, hok0, hokS, hokn⟩ : ∃ okN : Nat → Bool, okN 0 = true ∧ (∀ (j : Nat) (x : Arg), xs[j]? = some x → okN (j + 1) = (okN j && ok x)) ∧ okN n = xs.all ok := ⟨fun j => (xs.take j).all ok, rfl, fun j x hx => all_take hx ok, by simp only; rw [List.take_of_length_le (by omega)]⟩
  have HOK := Lib.hid hokS
  have HON := Lib.hid hokn
  have HM := Lib.hid hmay
  have HDO := Lib.hid hdo
  have HR0 := Lib.hid hr
  have hTO := Lib.hid (h.below (show Below w.heap.size w (w.alloc zeroV) from (by (with_reducible repeat' (first | exact .refl _ _ | assumption | refine bmP ?_ ?_ | refine baP ?_ _ ?_ | refine .drew ?_ | refine .setCell ?_ ?_ _ | refine bdP ?_ _)) <;> go_size)))
  clear hcx hokS hokn hcs hmay hdo hr h
  obtain ⟨i0, hi, hz0, hz1, hz2⟩ := info_parts info_B
  go_enter Tryz.func8, Tryz.ntmps8
  go_wp2_with (first | (go_at_call 25; refine (table_all b _ hTO.out).mono ?_; rintro e w1 ⟨⟨m, rfl, hM⟩, hRD, hTT⟩; obtain ⟨wB, l, q, hsz, hTB, rfl⟩ := turn_split hbl hTT; have HMI := Lib.hid hM; have HRY := Lib.hid hRD; have HTB := Lib.hid hTB; clear hM hRD hTT hTB) | (at_lookup; refine wpList_lookI HMI.out _ _ rfl rfl rfl _ rfl ?_ ?_))
  · intro fn first cap fn1 first1 cap1 hv
    obtain ⟨pl, pm, pd, f, rfl, rfl, rfl, rfl, rfl, rfl, h1, h2, h3, h4⟩ := ent_own hv.out.1 ho
    have HR := Lib.hid (HR0.out.turn hap HTB.out)
    have HMA' := Lib.hid (fun a ha w' (hb : Below wB.heap.size wB w') => HM.out a ha w' (HTB.out.trans (.of_below hb)))
    have HDO' := Lib.hid (fun w' pd f (hb : Below wB.heap.size wB w') => HDO.out w' pd f (HTB.out.trans (.of_below hb)))
    unfold zeroV at h1 h2 h3 h4
    clear hv HM HDO
    go_wp2
    go_loopw [23, 10, 11] (fun t o v wr => ∃ j : Nat, j ≤ n ∧ t = .int .i64 j ∧ o = .bool (okN j) ∧ GathRel ((more (wB.alloc zeroV) l q).alloc (funO pl pm pd)) wr 4 1 v j (cs.take j)) (fun t _ _ _ => n - (intOf t).toNat)
    case atStart => exact ⟨0, Nat.zero_le _, rfl, by rw [hok0], Below.refl _ _, World.ownsRow_nil _ _ _ _⟩
    case round =>
      obtain ⟨j, hj, rfl, rfl, hR⟩ := hrel
      have hw0 : Below wB.heap.size wB ((more (wB.alloc zeroV) l q).alloc (funO pl pm pd)) := (by (with_reducible repeat' (first | exact .refl _ _ | assumption | refine bmP ?_ ?_ | refine baP ?_ _ ?_ | refine .drew ?_ | refine .setCell ?_ ?_ _ | refine bdP ?_ _)) <;> go_size)
      have hwr : Below wB.heap.size wB wr := hw0.trans (hR.1.mono hw0.size)
      have hws := hwr.size
      by_cases hlt : j < n
      · obtain ⟨a, ha⟩ : ∃ a, xs[j]? = some a := ⟨_, List.getElem?_eq_getElem (show j < xs.length by omega)⟩
        obtain ⟨bk, off, rfl, _, hc⟩ := HR.out.2 (by omega)
        have hcell : ∀ i u, a.cells[i]? = some u → wr.cell? ⟨bk, off + (j * 11 + i), none⟩ = some u := fun i u hu => by
          have h1 := hc _ u (argFlat_at xs j a ha i u hu)
          exact (hwr.cell (p := ⟨bk, _, none⟩) (World.block_lt_of_cell? wB _ h1)).trans h1
        have c0 := hcell 0 _ rfl
        have c1 := hcell 1 _ rfl
        have c2 := hcell 2 _ rfl
        have c3 := hcell 3 _ rfl
        have c4 := hcell 4 _ rfl
        have c5 := hcell 5 _ rfl
        have c6 := hcell 6 _ rfl
        have c7 := hcell 7 _ rfl
        have c8 := hcell 8 _ rfl
        have c9 := hcell 9 _ rfl
        have c10 := hcell 10 _ rfl
        simp only [← Nat.add_assoc, Nat.add_zero] at c0 c1 c2 c3 c4 c5 c6 c7 c8 c9 c10
        have HG := Lib.hid hR
        have hmem := Lib.hid (List.mem_of_getElem? ha)
        have HMA := HMA'.out a hmem.out
        have HMH := Lib.hid HMA
        clear hcell hR hc HMA h1 h2 h3 h4 hw0
        cases hokj : okN j
        · have hoj := HOK.out j a ha
          rw [hokj] at hoj
          go_wp2_with (first | (at_builtin; refine wpList_append_own _ rfl _ _ 34 rfl ((more (wB.alloc zeroV) l q).alloc (funO pl pm pd)).heap.size 4 i0 _ 1 1 Tryz.underlying34 hi hz0 hz1 hz2 rfl (by decide) _ _ _ rfl (own_below HG.out.2 (by (with_reducible repeat' (first | exact .refl _ _ | assumption | refine bmP ?_ ?_ | refine baP ?_ _ ?_ | refine .drew ?_ | refine .setCell ?_ ?_ _ | refine bdP ?_ _)) <;> go_size)) _ 1 1 [.bool a.many] rfl rfl ?_ ?_ ?_ ?_ ?_ ?_))
          · exact fun i u hu => fresh_cells (by simp) i u hu
          · intro u hu
            simp only [List.mem_cons, List.not_mem_nil, or_false] at hu
            subst hu
            rfl
          · simp only [maxLen]; omega
          · omega
          · have h1 := HG.out.1.size
            simp at h1 ⊢
            omega
          · intro v' w3 hown' hgrow _
            have R := GathRel.step HG.out (by (with_reducible repeat' (first | exact .refl _ _ | assumption | refine bmP ?_ ?_ | refine baP ?_ _ ?_ | refine .drew ?_ | refine .setCell ?_ ?_ _ | refine bdP ?_ _)) <;> go_size) (show w3.ownsRow ((more (wB.alloc zeroV) l q).alloc (funO pl pm pd)).heap.size 4 1 v' (j + 1) (cs.take j ++ [.bool a.many]) from by simpa [hsz] using hown') hgrow
            rw [← take_one (HCX.out j a ha)] at R
            have HG' := Lib.hid R
            have HJ := Lib.hid hoj
            clear hown' hgrow R HG c0 c1 c2 c3 c4 c5 c6 c7 c8 c9 c10 hokj hoj hwr
            go_wp2
            go_roundw
            case rel => exact ⟨j + 1, by omega, by go_num, by rw [HJ.out]; rfl, HG'.out⟩
            case measure => simp [intOf]; omega
        · have hoj := HOK.out j a ha
          rw [hokj] at hoj
          go_wp2_with (first | (go_at_call 26; refine (HMH.out _ (by (with_reducible repeat' (first | exact .refl _ _ | assumption | refine bmP ?_ ?_ | refine baP ?_ _ ?_ | refine .drew ?_ | refine .setCell ?_ ?_ _ | refine bdP ?_ _)) <;> go_size)).mono ?_; rintro e w2 ⟨rfl, hb⟩; obtain ⟨l2, q2, rfl⟩ := more_of_below hb; clear hb) | (at_builtin; refine wpList_append_own _ rfl _ _ 34 rfl ((more (wB.alloc zeroV) l q).alloc (funO pl pm pd)).heap.size 4 i0 _ 1 1 Tryz.underlying34 hi hz0 hz1 hz2 rfl (by decide) _ _ _ rfl (own_below HG.out.2 (by (with_reducible repeat' (first | exact .refl _ _ | assumption | refine bmP ?_ ?_ | refine baP ?_ _ ?_ | refine .drew ?_ | refine .setCell ?_ ?_ _ | refine bdP ?_ _)) <;> go_size)) _ 1 1 [.bool a.many] rfl rfl ?_ ?_ ?_ ?_ ?_ ?_))
          · exact fun i u hu => fresh_cells (by simp) i u hu
          · intro u hu
            simp only [List.mem_cons, List.not_mem_nil, or_false] at hu
            subst hu
            rfl
          · simp only [maxLen]; omega
          · omega
          · have h1 := HG.out.1.size
            simp at h1 ⊢
            omega
          · intro v' w3 hown' hgrow _
            have R := GathRel.step HG.out (by (with_reducible repeat' (first | exact .refl _ _ | assumption | refine bmP ?_ ?_ | refine baP ?_ _ ?_ | refine .drew ?_ | refine .setCell ?_ ?_ _ | refine bdP ?_ _)) <;> go_size) (show w3.ownsRow ((more (wB.alloc zeroV) l q).alloc (funO pl pm pd)).heap.size 4 1 v' (j + 1) (cs.take j ++ [.bool a.many]) from by simpa [hsz] using hown') hgrow
            rw [← take_one (HCX.out j a ha)] at R
            have HG' := Lib.hid R
            have HJ := Lib.hid hoj
            clear hown' hgrow R HG c0 c1 c2 c3 c4 c5 c6 c7 c8 c9 c10 hokj hoj hwr
            go_wp2
            go_roundw
            case rel => exact ⟨j + 1, by omega, by go_num, by rw [HJ.out]; rfl, HG'.out⟩
            case measure => simp [intOf]; omega
      · obtain rfl : j = n := by omega
        rw [List.take_of_length_le (by omega)] at hR
        obtain ⟨hB, hO⟩ := hR
        have hkw : Keeps (more (wB.alloc zeroV) l q) wr := Keeps.trans (by repeat (first | with_reducible exact keeps_refl _ | with_reducible assumption | with_reducible refine keeps_alloc ?_ _ | with_reducible refine keeps_more ?_ _ _ | with_reducible refine keeps_drew ?_ | with_reducible refine keeps_drewN ?_ _)) (keeps_below hB)
        have h1' := hkw.cell _ _ _ h1
        have h2' := hkw.cell _ _ _ h2
        have h3' := hkw.cell _ _ _ h3
        have h4' := h4.keeps hkw
        have HPL := Lib.hid h1'
        have HPM := Lib.hid h2'
        have HPD := Lib.hid h3'
        have HOK' := Lib.hid h4'
        obtain ⟨xsB, hxb⟩ : ∃ xsB, xsB = xs.map Arg.many := ⟨_, rfl⟩
        rw [HCS.out, ← hxb] at hO
        obtain ⟨A', c', rfl⟩ := own_slice hO
        have HRD := Lib.hid (Reads.of_own hO)
        have hbn : xsB.length = j := by rw [hxb, List.length_map, hlen]
        have htl : takesAll s (xs.map Arg.many) = (between x y j && !hasTrue xsB) := by rw [← hxb]; simp [takesAll, ho, hbn]
        have hpd := World.block_lt_of_cell? _ _ h3'
        obtain ⟨l2, q2, rfl⟩ := more_of_below hB
        clear h1 h2 h3 h4 h1' h2' h4' hkw hO hB
        unfold zeroV funO at *
        cases hokj : okN j
        · have e : callG ok s xs r = errG 8 := by
            have h1 := HON.out
            rw [hokj] at h1
            simp [callG, ← h1]
          have E := Lib.hid e
          clear e HDO'
          go_wp2_with (first | (go_at_call 27; refine (value_Err _ _).mono ?_; rintro e w1 ⟨rfl, hb⟩; obtain ⟨l3, q3, rfl⟩ := more_of_below hb; clear hb))
          all_goals (simp only [← hsz]; go_returns)
          exact ⟨by rw [E.out], (ready_end HRY.out).below (by (with_reducible repeat' (first | exact .refl _ _ | assumption | refine bmP ?_ ?_ | refine baP ?_ _ ?_ | refine .drew ?_ | refine .setCell ?_ ?_ _ | refine bdP ?_ _)) <;> go_size), HTB.out.trans (.of_below (by (with_reducible repeat' (first | exact .refl _ _ | assumption | refine bmP ?_ ?_ | refine baP ?_ _ ?_ | refine .drew ?_ | refine .setCell ?_ ?_ _ | refine bdP ?_ _)) <;> go_size))⟩
        · have h1 := HON.out
          rw [hokj] at h1
          cases htk : (between x y j && !hasTrue xsB)
          · have e : callG ok s xs r = errG 8 := by
              rw [htk] at htl
              simp [callG, htl]
            have E := Lib.hid e
            clear e HDO' h1 htl
            go_wp2_with (first | (go_at_call 27; refine (value_Err _ _).mono ?_; rintro e w1 ⟨rfl, hb⟩; obtain ⟨l3, q3, rfl⟩ := more_of_below hb; clear hb) | (go_at_call 248; refine (singles1 pl pm x y A' j c' xsB _ _ (HPL.out) (HPM.out) HRD.out (by omega)).mono ?_; rintro e w4 ⟨rfl, hb⟩; rw [htk]; obtain ⟨l4, q4, rfl⟩ := more_of_below hb; clear hb))
            all_goals (simp only [← hsz]; go_returns)
            exact ⟨by rw [E.out], (ready_end HRY.out).below (by (with_reducible repeat' (first | exact .refl _ _ | assumption | refine bmP ?_ ?_ | refine baP ?_ _ ?_ | refine .drew ?_ | refine .setCell ?_ ?_ _ | refine bdP ?_ _)) <;> go_size), HTB.out.trans (.of_below (by (with_reducible repeat' (first | exact .refl _ _ | assumption | refine bmP ?_ ?_ | refine baP ?_ _ ?_ | refine .drew ?_ | refine .setCell ?_ ?_ _ | refine bdP ?_ _)) <;> go_size))⟩
          · have e : callG ok s xs r = r := by
              rw [htk] at htl
              simp [callG, htl, ← h1]
            have E := Lib.hid e
            have hbt : between x y j = true := by
              cases h2 : between x y j
              · rw [h2] at htk; cases htk
              · rfl
            have HDC := Lib.hid (fun w' pd f h2 h3 h4 => HDO'.out w' pd f h2 h3 h4 hbt h1.symm)
            clear e HDO' h1 htl hbt
            go_wp2_with (first | (go_at_call 248; refine (singles1 pl pm x y A' j c' xsB _ _ (HPL.out) (HPM.out) HRD.out (by omega)).mono ?_; rintro e w4 ⟨rfl, hb⟩; rw [htk]; obtain ⟨l4, q4, rfl⟩ := more_of_below hb; clear hb) | (go_at_call 249; refine Calls.mono (HDC.out _ pd f ?_ ?_ ?_) ?_; (exact (by (with_reducible repeat' (first | exact .refl _ _ | assumption | refine bmP ?_ ?_ | refine baP ?_ _ ?_ | refine .drew ?_ | refine .setCell ?_ ?_ _ | refine bdP ?_ _)) <;> go_size)); (rw [← more_more (l := l2) (n := q2)]; exact (keeps_more (keeps_refl _) _ _).cell _ _ _ HPD.out); (rw [← more_more (l := l2) (n := q2)]; exact HOK'.out.keeps (keeps_more (keeps_refl _) _ _)); rintro e w5 ⟨rfl, hb⟩; obtain ⟨l5, q5, rfl⟩ := more_of_below hb; clear hb))
            all_goals (simp only [← hsz]; go_returns)
            exact ⟨by rw [E.out], (ready_end HRY.out).below (by (with_reducible repeat' (first | exact .refl _ _ | assumption | refine bmP ?_ ?_ | refine baP ?_ _ ?_ | refine .drew ?_ | refine .setCell ?_ ?_ _ | refine bdP ?_ _)) <;> go_size), HTB.out.trans (.of_below (by (with_reducible repeat' (first | exact .refl _ _ | assumption | refine bmP ?_ ?_ | refine baP ?_ _ ?_ | refine .drew ?_ | refine .setCell ?_ ?_ _ | refine bdP ?_ _)) <;> go_size))⟩
  · intro hv
    have h1 := hv.out
    rw [hD.out] at h1
    cases h1
end Go.Proofs.YtegbhdeaicgpkaaGreatDoor
