/-
  The program's Table.Call, for a name of layer 11: what it answers, given what may and the function answer.
-/
import Derived.Test.YtpcihefhagipmaaGreatDoorGather
import Derived.Test.YtpcihefhagipmaaGreatDoorTabU
namespace Go.Proofs.YtpcihefhagipmaaGreatDoor
open Go Go.RowKit

/-- An entry of layer 11, taken apart. -/
theorem ent_own {s : ByteArray} {fn fn1 : Fn} {first cap first1 cap1 : Array Value} {w : World} {x y : Int} {d : Doer} (h : EntE w s (.agg #[.func fn first cap, .func fn1 first1 cap1])) (ho : ownTab s = some (x, y, d)) :
    ∃ pl pm pd f, fn = .func 113 ∧ first = #[] ∧ cap = #[.pointer (some ⟨pl, 0, none⟩), .pointer (some ⟨pm, 0, none⟩)] ∧ fn1 = .func 114 ∧ first1 = #[] ∧ cap1 = #[.pointer (some ⟨pd, 0, none⟩)] ∧
      w.cell? ⟨pl, 0, none⟩ = some (.int .i64 x) ∧ w.cell? ⟨pm, 0, none⟩ = some (.int .i64 y) ∧ w.cell? ⟨pd, 0, none⟩ = some f ∧ DoOK w f d := by
  rcases h with ⟨x', y', d', e1, pl, pm, pd, f, ev, h1, h2, h3, h4⟩ | ⟨i, e1, _⟩
  · rw [ho] at e1
    cases e1
    injection ev with ev
    cases ev
    exact ⟨pl, pm, pd, f, rfl, rfl, rfl, rfl, rfl, rfl, h1, h2, h3, h4⟩
  · rw [own_lay s ho] at e1
    cases e1

theorem all_take {α : Type} {xs : List α} {k : Nat} {a : α} (h : xs[k]? = some a) (f : α → Bool) : (xs.take (k + 1)).all f = ((xs.take k).all f && f a) := by
  rw [take_one h]
  simp

def callG (ok : Arg → Bool) (s : ByteArray) (xs : List Arg) (r : V) : V := if xs.all ok && takesAll s (xs.map Arg.many) then r else errG 8
/-- Where the index is made, all leaves what stood. -/
theorem table_allR (b : Nat) (w : World) (d : Int) (m : Nat) (hd : ¬ d = 0) (h0 : w.cell? ⟨b, 0, none⟩ = some (.int .u32 d)) (h3 : w.cell? ⟨b, 3, none⟩ = some (.map (some m))) : Calls Tryz.prog 20 #[.pointer (some ⟨b, 0, none⟩)] w fun e w' => e = .returned (.map (some m)) ∧ Below w.heap.size w w' := by
  have hmf : ∀ (fn : Fn) (first cap : Array Value) (w : World), (Instr.makeFunc fn first cap).run Tryz.prog w = .ok (.func fn first cap) w := fun _ _ _ _ => rfl
  have hlt := cell_lt h0
  go_enter Tryz.func20, Tryz.ntmps20
  go_wp2_with (first | (go_at_call 32; refine (once_done ⟨b, 0, none⟩ d hd _ _ (by go_simp)).mono ?_; rintro e w1 ⟨rfl, rfl⟩))
  go_ret
  exact ⟨rfl, (by repeat (first | with_reducible exact Below.refl _ _ | with_reducible assumption | with_reducible refine below_more' ?_ (by go_size) | with_reducible refine bel_alloc ?_ _ (by go_size) | with_reducible refine Below.drew ?_ | with_reducible refine Below.setCell ?_ (by go_size) _ | with_reducible refine below_drewN ?_ _))⟩
@[go_sem] theorem ga1 {a n : Nat} : (a < a + 1 + n) = True := by simp; omega
@[go_sem] theorem ga2 {a n : Nat} : (a < a + 1 + n + 1) = True := by simp; omega
@[go_sem] theorem ga3 {a n : Nat} : (a ≤ a + 1 + n) = True := by simp; omega
@[go_sem] theorem ga4 {a n : Nat} : (a = a + 1 + n) = False := by simp; omega
@[go_sem] theorem ga5 {a n m : Nat} : (a < a + 1 + n + 1 + m) = True := by simp; omega
theorem own_slice {w : World} {base e size n : Nat} {v : Value} {xs : List Value} (h : w.ownsRow base e size v n xs) : ∃ A c, v = .slice A n c := by
  rcases h.2 with ⟨h1, h2⟩ | ⟨g, cap, cur, e1, _⟩
  · subst h2; exact ⟨_, _, h1⟩
  · exact ⟨_, _, e1⟩
def funO (pl pm pd : Nat) : Obj := .cells #[.func (.func 113) #[] #[.pointer (some ⟨pl, 0, none⟩), .pointer (some ⟨pm, 0, none⟩)], .func (.func 114) #[] #[.pointer (some ⟨pd, 0, none⟩)]] 67

set_option maxRecDepth 100000 in
set_option maxHeartbeats 4000000 in
theorem table_CallOwn (b : Nat) (tx : Int) (s : ByteArray) (x y : Int) (d : Doer) (ho : ownTab s = some (x, y, d)) (ok : Arg → Bool) (xs : List Arg) (A : Option Addr) (n c B : Nat) (w : World) (h : Ready w b) (hr : Reads w B 11 A n (argFlat xs)) (hm : n ≤ 1000000000000)
    (hmay : ∀ a ∈ xs, ∀ w', Below w.heap.size w w' → Calls Tryz.prog 21 #[a.agg] w' fun e w'' => e = .returned (.bool (ok a)) ∧ Below w'.heap.size w' w'') (r : V)
    (hdo : ∀ w' pd f, Below w.heap.size w w' → w'.cell? ⟨pd, 0, none⟩ = some f → DoOK w' f d → between x y n = true → xs.all ok = true → Calls Tryz.prog 114 #[.slice A n c, .int .i64 tx, .pointer (some ⟨pd, 0, none⟩)] w' fun e w'' => e = .returned (Value.agg #[Value.int .i64 (r).tag, Value.int .i64 (r).num, Value.string (r).str, Value.bool (r).is, Value.int .i64 (r).code]) ∧ Below w'.heap.size w' w'') :
    Calls Tryz.prog 10 #[.pointer (some ⟨b, 0, none⟩), .string s, .slice A n c, .int .i64 tx] w fun e w' => e = .returned (Value.agg #[Value.int .i64 (callG ok s xs r).tag, Value.int .i64 (callG ok s xs r).num, Value.string (callG ok s xs r).str, Value.bool (callG ok s xs r).is, Value.int .i64 (callG ok s xs r).code]) ∧ Below w.heap.size w w' := by
  have hbl := h.lt
  have hlen : xs.length = n := by
    have := hr.1
    rw [argFlat_length] at this
    omega
  have hD := Lib.hid (show D1 50 s = true by simp [D1, own_known s ho])
  obtain ⟨cs, hcs⟩ : ∃ cs, cs = (xs.map Arg.many).map Value.bool := ⟨_, rfl⟩
  have hcl : cs.length = n := by rw [hcs]; simp [hlen]
  have hcx : ∀ (j : Nat) (x : Arg), xs[j]? = some x → cs[j]? = some (.bool x.many) := fun j x hx => by rw [hcs, List.getElem?_map, List.getElem?_map, hx]; rfl
  have HCX := Lib.hid hcx
  have HCS := Lib.hid hcs
  obtain ⟨okN, hok0, hokS, hokn⟩ : ∃ okN : Nat → Bool, okN 0 = true ∧ (∀ (j : Nat) (x : Arg), xs[j]? = some x → okN (j + 1) = (okN j && ok x)) ∧ okN n = xs.all ok := ⟨fun j => (xs.take j).all ok, rfl, fun j x hx => all_take hx ok, by simp only; rw [List.take_of_length_le (by omega)]⟩
  have HOK := Lib.hid hokS
  have HON := Lib.hid hokn
  have HM := Lib.hid hmay
  have HDO := Lib.hid hdo
  have HR := Lib.hid hr
  obtain ⟨d0, m, hd, h0, h3, hM⟩ := h
  have HMI := Lib.hid hM
  have hd0 := Lib.hid hd
  have hml := hM.lt
  clear hcx hokS hokn hcs hmay hdo hr hM hd
  obtain ⟨i0, hi, hz0, hz1, hz2⟩ := info_parts info_B
  go_enter Tryz.func10, Tryz.ntmps10
  go_wp2_with (first | (go_at_call 20; refine (table_allR b _ d0 m hd0.out (by go_simp) (by go_simp)).mono ?_; rintro e w1 ⟨rfl, hb⟩; obtain ⟨l, q, rfl⟩ := more_of_below hb; clear hb) | (at_lookup; refine wpList_lookI (HMI.out.below (by repeat (first | with_reducible exact Below.refl _ _ | with_reducible assumption | with_reducible refine below_more' ?_ (by go_size) | with_reducible refine bel_alloc ?_ _ (by go_size) | with_reducible refine Below.drew ?_ | with_reducible refine Below.setCell ?_ (by go_size) _ | with_reducible refine below_drewN ?_ _))) _ _ rfl rfl rfl _ rfl ?_ ?_))
  · intro fn first cap fn1 first1 cap1 hv
    obtain ⟨pl, pm, pd, f, rfl, rfl, rfl, rfl, rfl, rfl, h1, h2, h3, h4⟩ := ent_own hv.out.1 ho
    clear hv
    go_wp2
    go_loopw [23, 10, 11] (fun t o v wr => ∃ j : Nat, j ≤ n ∧ t = .int .i64 j ∧ o = .bool (okN j) ∧ GathRel ((more (w.alloc zeroV) l q).alloc (funO pl pm pd)) wr 4 1 v j (cs.take j)) (fun t _ _ _ => n - (intOf t).toNat)
    case atStart => exact ⟨0, Nat.zero_le _, rfl, by rw [hok0], Below.refl _ _, World.ownsRow_nil _ _ _ _⟩
    case round =>
      obtain ⟨j, hj, rfl, rfl, hR⟩ := hrel
      have hw0 : Below w.heap.size w ((more (w.alloc zeroV) l q).alloc (funO pl pm pd)) := (by repeat (first | with_reducible exact Below.refl _ _ | with_reducible assumption | with_reducible refine below_more' ?_ (by go_size) | with_reducible refine bel_alloc ?_ _ (by go_size) | with_reducible refine Below.drew ?_ | with_reducible refine Below.setCell ?_ (by go_size) _ | with_reducible refine below_drewN ?_ _))
      have hwr : Below w.heap.size w wr := hw0.trans (hR.1.mono hw0.size)
      have hws := hwr.size
      by_cases hlt : j < n
      · obtain ⟨a, ha⟩ : ∃ a, xs[j]? = some a := ⟨_, List.getElem?_eq_getElem (show j < xs.length by omega)⟩
        obtain ⟨bk, off, rfl, _, hc⟩ := HR.out.2 (by omega)
        have hcell : ∀ i u, a.cells[i]? = some u → wr.cell? ⟨bk, off + (j * 11 + i), none⟩ = some u := fun i u hu => by
          have h1 := hc _ u (argFlat_at xs j a ha i u hu)
          exact (hwr.cell (p := ⟨bk, _, none⟩) (World.block_lt_of_cell? w _ h1)).trans h1
        have c0 := hcell 0 _ rfl
        have c1 := hcell 1 _ rfl
        have c2 := hcell 2 _ rfl
        have c3 := hcell 3 _ rfl
        have c4 := hcell 4 _ rfl
        have c5 := hcell 5 _ rfl
        have c6 := hcell 6 _ rfl
        have c7 := hcell 7 _ rfl
        have c8 := hcell 8 _ rfl
        have c9 := hcell 9 _ rfl
        have c10 := hcell 10 _ rfl
        simp only [← Nat.add_assoc, Nat.add_zero] at c0 c1 c2 c3 c4 c5 c6 c7 c8 c9 c10
        have HG := Lib.hid hR
        have hmem := Lib.hid (List.mem_of_getElem? ha)
        have HMA := HM.out a hmem.out
        have HMH := Lib.hid HMA
        clear hcell hR hc HMA h1 h2 h3 h4 h0 hw0
        cases hokj : okN j
        · have hoj := HOK.out j a ha
          rw [hokj] at hoj
          go_wp2_with (first | (at_builtin; refine wpList_append_own _ rfl _ _ 42 rfl ((more (w.alloc zeroV) l q).alloc (funO pl pm pd)).heap.size 4 i0 _ 1 1 Tryz.underlying42 hi hz0 hz1 hz2 rfl (by decide) _ _ _ rfl (own_below HG.out.2 (by repeat (first | with_reducible exact Below.refl _ _ | with_reducible assumption | with_reducible refine below_more' ?_ (by go_size) | with_reducible refine bel_alloc ?_ _ (by go_size) | with_reducible refine Below.drew ?_ | with_reducible refine Below.setCell ?_ (by go_size) _ | with_reducible refine below_drewN ?_ _))) _ 1 1 [.bool a.many] rfl rfl ?_ ?_ ?_ ?_ ?_ ?_))
          · exact fun i u hu => fresh_cells (by simp) i u hu
          · intro u hu
            simp only [List.mem_cons, List.not_mem_nil, or_false] at hu
            subst hu
            rfl
          · simp only [maxLen]; omega
          · omega
          · have h1 := HG.out.1.size
            simp at h1 ⊢
            omega
          · intro v' w3 hown' hgrow _
            have R := GathRel.step HG.out (by repeat (first | with_reducible exact Below.refl _ _ | with_reducible assumption | with_reducible refine below_more' ?_ (by go_size) | with_reducible refine bel_alloc ?_ _ (by go_size) | with_reducible refine Below.drew ?_ | with_reducible refine Below.setCell ?_ (by go_size) _ | with_reducible refine below_drewN ?_ _)) (show w3.ownsRow ((more (w.alloc zeroV) l q).alloc (funO pl pm pd)).heap.size 4 1 v' (j + 1) (cs.take j ++ [.bool a.many]) from by simpa using hown') hgrow
            rw [← take_one (HCX.out j a ha)] at R
            have HG' := Lib.hid R
            have HJ := Lib.hid hoj
            clear hown' hgrow R HG c0 c1 c2 c3 c4 c5 c6 c7 c8 c9 c10 hokj hoj hwr
            go_wp2
            go_roundw
            case rel => exact ⟨j + 1, by omega, by go_num, by rw [HJ.out]; rfl, HG'.out⟩
            case measure => simp [intOf]; omega
        · have hoj := HOK.out j a ha
          rw [hokj] at hoj
          go_wp2_with (first | (go_at_call 21; refine (HMH.out _ (by repeat (first | with_reducible exact Below.refl _ _ | with_reducible assumption | with_reducible refine below_more' ?_ (by go_size) | with_reducible refine bel_alloc ?_ _ (by go_size) | with_reducible refine Below.drew ?_ | with_reducible refine Below.setCell ?_ (by go_size) _ | with_reducible refine below_drewN ?_ _))).mono ?_; rintro e w2 ⟨rfl, hb⟩; obtain ⟨l2, q2, rfl⟩ := more_of_below hb; clear hb) | (at_builtin; refine wpList_append_own _ rfl _ _ 42 rfl ((more (w.alloc zeroV) l q).alloc (funO pl pm pd)).heap.size 4 i0 _ 1 1 Tryz.underlying42 hi hz0 hz1 hz2 rfl (by decide) _ _ _ rfl (own_below HG.out.2 (by repeat (first | with_reducible exact Below.refl _ _ | with_reducible assumption | with_reducible refine below_more' ?_ (by go_size) | with_reducible refine bel_alloc ?_ _ (by go_size) | with_reducible refine Below.drew ?_ | with_reducible refine Below.setCell ?_ (by go_size) _ | with_reducible refine below_drewN ?_ _))) _ 1 1 [.bool a.many] rfl rfl ?_ ?_ ?_ ?_ ?_ ?_))
          · exact fun i u hu => fresh_cells (by simp) i u hu
          · intro u hu
            simp only [List.mem_cons, List.not_mem_nil, or_false] at hu
            subst hu
            rfl
          · simp only [maxLen]; omega
          · omega
          · have h1 := HG.out.1.size
            simp at h1 ⊢
            omega
          · intro v' w3 hown' hgrow _
            have R := GathRel.step HG.out (by repeat (first | with_reducible exact Below.refl _ _ | with_reducible assumption | with_reducible refine below_more' ?_ (by go_size) | with_reducible refine bel_alloc ?_ _ (by go_size) | with_reducible refine Below.drew ?_ | with_reducible refine Below.setCell ?_ (by go_size) _ | with_reducible refine below_drewN ?_ _)) (show w3.ownsRow ((more (w.alloc zeroV) l q).alloc (funO pl pm pd)).heap.size 4 1 v' (j + 1) (cs.take j ++ [.bool a.many]) from by simpa using hown') hgrow
            rw [← take_one (HCX.out j a ha)] at R
            have HG' := Lib.hid R
            have HJ := Lib.hid hoj
            clear hown' hgrow R HG c0 c1 c2 c3 c4 c5 c6 c7 c8 c9 c10 hokj hoj hwr
            go_wp2
            go_roundw
            case rel => exact ⟨j + 1, by omega, by go_num, by rw [HJ.out]; rfl, HG'.out⟩
            case measure => simp [intOf]; omega
      · obtain rfl : j = n := by omega
        rw [List.take_of_length_le (by omega)] at hR
        obtain ⟨hB, hO⟩ := hR
        have hkw : Keeps (more (w.alloc zeroV) l q) wr := Keeps.trans (by repeat (first | with_reducible exact keeps_refl _ | with_reducible assumption | with_reducible refine keeps_alloc ?_ _ | with_reducible refine keeps_more ?_ _ _ | with_reducible refine keeps_drew ?_ | with_reducible refine keeps_drewN ?_ _)) (keeps_below hB)
        have h1' := hkw.cell _ _ _ h1
        have h2' := hkw.cell _ _ _ h2
        have h3' := hkw.cell _ _ _ h3
        have h4' := h4.keeps hkw
        have HPL := Lib.hid h1'
        have HPM := Lib.hid h2'
        have HPD := Lib.hid h3'
        have HOK' := Lib.hid h4'
        obtain ⟨xsB, hxb⟩ : ∃ xsB, xsB = xs.map Arg.many := ⟨_, rfl⟩
        rw [HCS.out, ← hxb] at hO
        obtain ⟨A', c', rfl⟩ := own_slice hO
        have HRD := Lib.hid (Reads.of_own hO)
        have hbn : xsB.length = j := by rw [hxb, List.length_map, hlen]
        have htl : takesAll s (xs.map Arg.many) = (between x y j && !hasTrue xsB) := by rw [← hxb]; simp [takesAll, ho, hbn]
        have hpd := World.block_lt_of_cell? _ _ h3'
        obtain ⟨l2, q2, rfl⟩ := more_of_below hB
        clear h1 h2 h3 h4 h1' h2' h4' hkw hO h0 hB
        unfold zeroV funO at *
        cases hokj : okN j
        · have e : callG ok s xs r = errG 8 := by
            have h1 := HON.out
            rw [hokj] at h1
            simp [callG, ← h1]
          have E := Lib.hid e
          clear e HDO
          go_wp2_with (first | (go_at_call 22; refine (value_Err _ _).mono ?_; rintro e w1 ⟨rfl, hb⟩; obtain ⟨l3, q3, rfl⟩ := more_of_below hb; clear hb))
          all_goals go_returns
          exact ⟨by rw [E.out], (by repeat (first | with_reducible exact Below.refl _ _ | with_reducible assumption | with_reducible refine below_more' ?_ (by go_size) | with_reducible refine bel_alloc ?_ _ (by go_size) | with_reducible refine Below.drew ?_ | with_reducible refine Below.setCell ?_ (by go_size) _ | with_reducible refine below_drewN ?_ _))⟩
        · have h1 := HON.out
          rw [hokj] at h1
          cases htk : (between x y j && !hasTrue xsB)
          · have e : callG ok s xs r = errG 8 := by
              rw [htk] at htl
              simp [callG, htl]
            have E := Lib.hid e
            clear e HDO h1 htl
            go_wp2_with (first | (go_at_call 22; refine (value_Err _ _).mono ?_; rintro e w1 ⟨rfl, hb⟩; obtain ⟨l3, q3, rfl⟩ := more_of_below hb; clear hb) | (go_at_call 113; refine (singles1 pl pm x y A' j c' xsB _ _ (HPL.out) (HPM.out) HRD.out (by omega)).mono ?_; rintro e w4 ⟨rfl, hb⟩; rw [htk]; obtain ⟨l4, q4, rfl⟩ := more_of_below hb; clear hb))
            all_goals go_returns
            exact ⟨by rw [E.out], (by repeat (first | with_reducible exact Below.refl _ _ | with_reducible assumption | with_reducible refine below_more' ?_ (by go_size) | with_reducible refine bel_alloc ?_ _ (by go_size) | with_reducible refine Below.drew ?_ | with_reducible refine Below.setCell ?_ (by go_size) _ | with_reducible refine below_drewN ?_ _))⟩
          · have e : callG ok s xs r = r := by
              rw [htk] at htl
              simp [callG, htl, ← h1]
            have E := Lib.hid e
            have hbt : between x y j = true := by
              cases h2 : between x y j
              · rw [h2] at htk; cases htk
              · rfl
            have HDC := Lib.hid (fun w' pd f h2 h3 h4 => HDO.out w' pd f h2 h3 h4 hbt h1.symm)
            clear e HDO h1 htl hbt
            go_wp2_with (first | (go_at_call 113; refine (singles1 pl pm x y A' j c' xsB _ _ (HPL.out) (HPM.out) HRD.out (by omega)).mono ?_; rintro e w4 ⟨rfl, hb⟩; rw [htk]; obtain ⟨l4, q4, rfl⟩ := more_of_below hb; clear hb) | (go_at_call 114; refine Calls.mono (HDC.out _ pd f ?_ ?_ ?_) ?_; (exact (by repeat (first | with_reducible exact Below.refl _ _ | with_reducible assumption | with_reducible refine below_more' ?_ (by go_size) | with_reducible refine bel_alloc ?_ _ (by go_size) | with_reducible refine Below.drew ?_ | with_reducible refine Below.setCell ?_ (by go_size) _ | with_reducible refine below_drewN ?_ _))); (rw [← more_more (l := l2) (n := q2)]; exact (keeps_more (keeps_refl _) _ _).cell _ _ _ HPD.out); (rw [← more_more (l := l2) (n := q2)]; exact HOK'.out.keeps (keeps_more (keeps_refl _) _ _)); rintro e w5 ⟨rfl, hb⟩; obtain ⟨l5, q5, rfl⟩ := more_of_below hb; clear hb))
            all_goals go_returns
            exact ⟨by rw [E.out], (by repeat (first | with_reducible exact Below.refl _ _ | with_reducible assumption | with_reducible refine below_more' ?_ (by go_size) | with_reducible refine bel_alloc ?_ _ (by go_size) | with_reducible refine Below.drew ?_ | with_reducible refine Below.setCell ?_ (by go_size) _ | with_reducible refine below_drewN ?_ _))⟩
  · intro hv
    have h1 := hv.out
    rw [hD.out] at h1
    cases h1
end Go.Proofs.YtpcihefhagipmaaGreatDoor
