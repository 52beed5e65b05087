/-
  Parts of a proof: BelowL, OpenA.
-/
import Derived.Test.YtegbhdeaicgpkaaGreatDoorJ13
import Derived.Test.YtegbhdeaicgpkaaGreatDoorJ14
import Derived.Test.YtegbhdeaicgpkaaGreatDoorJ44
import Derived.Test.YtegbhdeaicgpkaaGreatDoorJ42
import Derived.Test.YtegbhdeaicgpkaaGreatDoorJ18
import Derived.Test.YtegbhdeaicgpkaaGreatDoorJ05
import Derived.Test.YtegbhdeaicgpkaaGreatDoorJ46
import Derived.Deep.Slices
set_option linter.all false
namespace Go.Proofs.YtegbhdeaicgpkaaGreatDoor
open Go Go.RowKit
structure LawIn (w : World) (pl : List (Arg × List En)) (A : Option Addr) (n c : Nat) : Prop where
  hr : Reads w w.heap.size 11 A n (argFlat (pl.map Prod.fst))
  hE : ∀ p ∈ pl, EntsAt w p.1 p.2
  hm : n ≤ 1048576
  hcap : n ≤ c
  h64 : ∀ p ∈ pl, Is64 p.1.val.num ∧ ∀ e ∈ p.2, Is64 e.v.num
  hsz : ∀ q ∈ pl, q.1.val.str.size ≤ 1048576 ∧ ∀ e ∈ q.2, e.v.str.size ≤ 1048576
  hn9 : ∀ q ∈ pl, q.1.n ≤ 1048576
  hp : Pow10 w
  hM : MaxL w
theorem LawIn.below {w W : World} {pl : List (Arg × List En)} {A : Option Addr} {n c : Nat} (h : LawIn w pl A n c) (hb : Below w.heap.size w W) : LawIn W pl A n c :=
  ⟨(h.hr.below hb).lift hb.size, fun p hp => (h.hE p hp).below hb, h.hm, h.hcap, h.h64, h.hsz, h.hn9, h.hp.below hb (Nat.le_refl _), h.hM.below hb⟩
theorem all_lay : namesL.all (fun n => (layOf n).isSome) = true := by decide +kernel
theorem first_layL {s : ByteArray} (h : inFirst 50 s = true) : (layOf s).isSome = true := by
  unfold inFirst at h
  obtain ⟨n, hn, e⟩ := List.any_eq_true.1 h
  simp only [decide_eq_true_eq] at e
  subst e
  exact List.all_eq_true.1 all_lay s (List.mem_of_mem_take hn)
theorem ite_isL {α : Type} {p : Prop} [Decidable p] {a : α} {b : Option α} {t : Bool} (h : t = b.isSome) : (if p then true else t) = (if p then some a else b).isSome := by
  by_cases hp : p
  · rw [if_pos hp, if_pos hp]; rfl
  · rw [if_neg hp, if_neg hp]; exact h
theorem isOwn_eqL (s : ByteArray) : isOwn s = (ownTab s).isSome := by
  unfold isOwn ownTab
  iterate 16 refine ite_isL ?_
  rfl
theorem isOwn_some {s : ByteArray} (h : isOwn s = true) : (ownTab s).isSome = true := by rw [← isOwn_eqL]; exact h
def okJ (pl : List (Arg × List En)) (j : Nat) : Bool := argOk (pl.getD j p0A).1 (pl.getD j p0A).2
theorem okJ_at {pl : List (Arg × List En)} {j : Nat} {p : Arg × List En} (h : pl[j]? = some p) : okJ pl j = argOk p.1 p.2 := by
  unfold okJ
  rw [List.getD_eq_getElem?_getD, h]
  rfl
theorem map_at {pl : List (Arg × List En)} {j : Nat} {a : Arg} (h : (pl.map Prod.fst)[j]? = some a) : ∃ p, pl[j]? = some p ∧ p.1 = a := by
  rw [List.getElem?_map] at h
  cases e : pl[j]? with
  | none => rw [e] at h; cases h
  | some p => rw [e] at h; exact ⟨p, rfl, Option.some.inj h⟩
theorem items_bound : ∀ pl : List (Arg × List En), (∀ p ∈ pl, p.2.length ≤ 1048576) → (itemsG pl).length ≤ pl.length * 1048577
  | [], _ => by simp [itemsG]
  | p :: pl, h => by
    have h1 := items_bound pl fun q hq => h q (List.mem_cons_of_mem _ hq)
    have h2 := h p (by simp)
    have h3 : (itemsA p).length ≤ 1048577 := by
      unfold itemsA
      rw [List.length_append, List.length_map]
      split <;> simp <;> omega
    unfold itemsG at h1 ⊢
    rw [List.flatMap_cons, List.length_append, List.length_cons]
    omega
section
variable {w : World} {pl : List (Arg × List En)} {A : Option Addr} {n c : Nat}
theorem LawIn.len (h : LawIn w pl A n c) : pl.length = n := by
  have := h.hr.1
  rw [argFlat_length, List.length_map] at this
  omega
theorem LawIn.v64 (h : LawIn w pl A n c) : ∀ a ∈ pl.map Prod.fst, Is64 a.val.num := fun a ha => by
  obtain ⟨p, hp, rfl⟩ := List.mem_map.1 ha
  exact (h.h64 p hp).1
theorem LawIn.may (h : LawIn w pl A n c) (F : Nat) (hF : ∀ (a : Arg) (es : List En) (W : World), EntsAt W a es → a.n ≤ 1000000000000 → Calls Tryz.prog F #[a.agg] W fun e w' => e = .returned (.bool (argOk a es)) ∧ Below W.heap.size W w') :
    ∀ j a, (pl.map Prod.fst)[j]? = some a → ∀ W, Below w.heap.size w W → Calls Tryz.prog F #[a.agg] W fun e w' => e = .returned (.bool (okJ pl j)) ∧ Below W.heap.size W w' := fun j a ha W hb => by
  obtain ⟨p, hj, rfl⟩ := map_at ha
  have hm := List.mem_of_getElem? hj
  rw [okJ_at hj]
  exact hF p.1 p.2 W ((h.hE p hm).below hb) (by have := h.hn9 p hm; omega)
theorem LawIn.nums (h : LawIn w pl A n c) (s : ByteArray) (tx : Int) : Calls Tryz.prog 10 #[.string s, .slice A n c, .int .i64 tx] w fun e w' => e = .returned (Value.agg #[Value.int .i64 (numsCallX s (pl.map Prod.fst) (okJ pl)).tag, Value.int .i64 (numsCallX s (pl.map Prod.fst) (okJ pl)).num, Value.string (numsCallX s (pl.map Prod.fst) (okJ pl)).str, Value.bool (numsCallX s (pl.map Prod.fst) (okJ pl)).is, Value.int .i64 (numsCallX s (pl.map Prod.fst) (okJ pl)).code]) ∧ Below w.heap.size w w' :=
  nums_Call s _ A n c _ tx w h.hr (by have := h.hm; omega) h.v64 (okJ pl) (h.may _ nums_may)
theorem LawIn.texts (h : LawIn w pl A n c) (s : ByteArray) (tx : Int) : Calls Tryz.prog 12 #[.string s, .slice A n c, .int .i64 tx] w fun e w' => e = .returned (Value.agg #[Value.int .i64 (textsCallX s (pl.map Prod.fst) (okJ pl) tx).tag, Value.int .i64 (textsCallX s (pl.map Prod.fst) (okJ pl) tx).num, Value.string (textsCallX s (pl.map Prod.fst) (okJ pl) tx).str, Value.bool (textsCallX s (pl.map Prod.fst) (okJ pl) tx).is, Value.int .i64 (textsCallX s (pl.map Prod.fst) (okJ pl) tx).code]) ∧ Below w.heap.size w w' :=
  texts_Call s _ A n c _ tx w h.hr (by have := h.hm; omega) h.v64 (fun a ha => by
    obtain ⟨p, hp, rfl⟩ := List.mem_map.1 ha
    exact (h.hsz p hp).1) h.hp h.hM (okJ pl) (h.may _ texts_may)
theorem LawIn.aggs (h : LawIn w pl A n c) (s : ByteArray) (tx : Int) : Calls Tryz.prog 14 #[.string s, .slice A n c, .int .i64 tx] w fun e w' => e = .returned (Value.agg #[Value.int .i64 (aggsCallX s (pl.map Prod.fst) pl (okJ pl) tx).tag, Value.int .i64 (aggsCallX s (pl.map Prod.fst) pl (okJ pl) tx).num, Value.string (aggsCallX s (pl.map Prod.fst) pl (okJ pl) tx).str, Value.bool (aggsCallX s (pl.map Prod.fst) pl (okJ pl) tx).is, Value.int .i64 (aggsCallX s (pl.map Prod.fst) pl (okJ pl) tx).code]) ∧ Below w.heap.size w w' :=
  aggs_Call s _ pl rfl A n c tx w h.hr (by have := h.hm; omega) h.hcap h.v64 (okJ pl) (h.may _ aggs_may) (fun j p hj => okJ_at hj) h.hE (fun p hp => (h.h64 p hp).2)
    (fun h16 => by
      have h1 := items_bound pl fun p hp => by have := (h.hE p hp).1; have := h.hn9 p hp; omega
      have := h.len
      omega) h.hsz (fun q hq => by have := h.hn9 q hq; omega) h.hp
def tabX (s : ByteArray) (pl : List (Arg × List En)) (tx : Int) : V := match ownTab s with
  | some _ => callX (okJ pl) s (pl.map Prod.fst) (ownDo s ((pl.map Prod.fst).map Arg.val))
  | none => match layOf s with
    | some 0 => numsCallX s (pl.map Prod.fst) (okJ pl)
    | some 1 => textsCallX s (pl.map Prod.fst) (okJ pl) tx
    | some _ => aggsCallX s (pl.map Prod.fst) pl (okJ pl) tx
    | none => errG 8
theorem own_none {s : ByteArray} {i : Nat} (h : layOf s = some i) : ownTab s = none := by
  cases ho : ownTab s with
  | none => rfl
  | some q => rw [own_lay s ho] at h; cases h
theorem lay_takes {s : ByteArray} {i : Nat} (h : layOf s = some i) (xs : List Bool) : takesAll s xs = layTakes i s xs := by
  unfold takesAll
  rw [own_none h, h]
theorem callX_nums {s : ByteArray} (h : layOf s = some 0) (al : List Arg) (ok : Nat → Bool) : callX ok s al (numsCallX s al ok) = numsCallX s al ok := by
  unfold callX
  rw [lay_takes h]
  show (if (List.range al.length).all ok && takesNum s (al.map Arg.many) then _ else _) = _
  unfold numsCallX
  cases (List.range al.length).all ok <;> cases takesNum s (al.map Arg.many) <;> rfl
theorem callX_texts {s : ByteArray} (h : layOf s = some 1) (al : List Arg) (ok : Nat → Bool) (tx : Int) : callX ok s al (textsCallX s al ok tx) = textsCallX s al ok tx := by
  unfold callX
  rw [lay_takes h]
  show (if (List.range al.length).all ok && takesText s (al.map Arg.many) then _ else _) = _
  unfold textsCallX
  cases (List.range al.length).all ok <;> cases takesText s (al.map Arg.many) <;> simp
theorem callX_aggs {s : ByteArray} (h : layOf s = some 2) (al : List Arg) (pl : List (Arg × List En)) (ok : Nat → Bool) (tx : Int) : callX ok s al (aggsCallX s al pl ok tx) = aggsCallX s al pl ok tx := by
  unfold callX
  rw [lay_takes h]
  show (if (List.range al.length).all ok && takesAgg s (al.map Arg.many) then _ else _) = _
  unfold aggsCallX
  cases (List.range al.length).all ok <;> cases takesAgg s (al.map Arg.many) <;> simp
theorem argOk_may {a : Arg} {es : List En} (h : argOk a es = true) : mayG a.val = true := by
  unfold argOk at h
  by_cases hm : a.many = true
  · rw [if_pos hm] at h
    simp only [Bool.and_eq_true] at h
    have h1 := h.1.2
    unfold eqB at h1
    rw [of_decide_eq_true h1]
    decide +kernel
  · rw [if_neg hm] at h
    simp only [Bool.and_eq_true] at h
    exact h.2
theorem layOf_cases {s : ByteArray} {i : Nat} (h : layOf s = some i) : i = 0 ∨ i = 1 ∨ i = 2 := by
  unfold layOf at h
  split at h
  · cases h; exact .inl rfl
  · split at h
    · cases h; exact .inr (.inl rfl)
    · split at h
      · cases h; exact .inr (.inr rfl)
      · cases h
theorem LawIn.table (h : LawIn w pl A n c) (b : Nat) (hR : Ready w b) (s : ByteArray) (tx : Int) : Calls Tryz.prog 8 #[.pointer (some ⟨b, 0, none⟩), .string s, .slice A n c, .int .i64 tx] w fun e w' => e = .returned (Value.agg #[Value.int .i64 (tabX s pl tx).tag, Value.int .i64 (tabX s pl tx).num, Value.string (tabX s pl tx).str, Value.bool (tabX s pl tx).is, Value.int .i64 (tabX s pl tx).code]) ∧ Below w.heap.size w w' := by
  have hm : n ≤ 1000000000000 := by have := h.hm; omega
  have hmay := h.may _ funcs_may
  have hlen := h.len
  unfold tabX
  cases ho : ownTab s with
  | some q =>
    obtain ⟨x, y, d⟩ := q
    refine table_callOwn b tx s x y d ho (okJ pl) (pl.map Prod.fst) A n c _ w hR h.hr hm hmay _ (fun w' pd f hb hc hD hbt hall => ?_)
    refine own_do ho (pl.map Prod.fst) A n c _ tx w' pd f hc hD (h.below hb).hr hm hbt (fun v hv => ?_) (fun v hv => ?_)
    · obtain ⟨a, ha, rfl⟩ := List.mem_map.1 hv
      exact h.v64 a ha
    · obtain ⟨a, ha, rfl⟩ := List.mem_map.1 hv
      obtain ⟨p, hp, rfl⟩ := List.mem_map.1 ha
      obtain ⟨j, hj⟩ := List.getElem?_of_mem hp
      have h1 := hall j (by have := (List.getElem?_eq_some_iff.1 hj).1; omega)
      rw [okJ_at hj] at h1
      exact argOk_may h1
  | none =>
    cases hl : layOf s with
    | some i =>
      rcases layOf_cases hl with rfl | rfl | rfl
      · have h1 := table_callLay b tx s 0 hl (okJ pl) (pl.map Prod.fst) A n c _ w hR h.hr hm hmay _ (fun w' hb => (h.below hb).nums s tx)
        rw [callX_nums hl] at h1
        exact h1
      · have h1 := table_callLay b tx s 1 hl (okJ pl) (pl.map Prod.fst) A n c _ w hR h.hr hm hmay _ (fun w' hb => (h.below hb).texts s tx)
        rw [callX_texts hl] at h1
        exact h1
      · have h1 := table_callLay b tx s 2 hl (okJ pl) (pl.map Prod.fst) A n c _ w hR h.hr hm hmay _ (fun w' hb => (h.below hb).aggs s tx)
        rw [callX_aggs hl] at h1
        exact h1
    | none =>
      have hD : D1 50 s = false := by
        cases hd : D1 50 s with
        | false => rfl
        | true =>
          exfalso
          unfold D1 at hd
          rcases Bool.or_eq_true_iff.1 hd with h1 | h1
          · have h2 := isOwn_some h1
            rw [ho] at h2
            cases h2
          · have h2 := first_layL h1
            rw [hl] at h2
            cases h2
      exact table_callNone b tx s hD (okJ pl) (pl.map Prod.fst) A n c _ w hR h.hr hm hmay
end
end Go.Proofs.YtegbhdeaicgpkaaGreatDoor
namespace Go.Proofs.YtegbhdeaicgpkaaGreatDoor
open Go.ChangeShapes Go.WideShapes Go.ChangeAt Go.RowKit
set_option maxRecDepth 100000
theorem bulk_one {H : Type} (d : DataW H) : 1 ≤ Rows.uptoBulk d := by
  cases d with
  | lit l => cases l <;> simp [Rows.uptoBulk]
  | nil => simp [Rows.uptoBulk]
  | ptr d => simp [Rows.uptoBulk]
  | slice elems spare => simp [Rows.uptoBulk]
  | agg parts => simp [Rows.uptoBulk]
  | iface t d => simp [Rows.uptoBulk]
  | map entries => simp [Rows.uptoBulk]
  | held h => simp [Rows.uptoBulk]
theorem bulk_part {H : Type} {d : DataW H} {l : List (DataW H)} (h : d ∈ l) : Rows.uptoBulk d ≤ Rows.uptoBulkAll l := by
  induction l with
  | nil => cases h
  | cons x r ih =>
    simp only [Rows.uptoBulkAll]
    cases List.mem_cons.1 h with
    | inl e => subst e; omega
    | inr e => have := ih e; omega
theorem bulk_length {H : Type} (l : List (DataW H)) : l.length ≤ Rows.uptoBulkAll l := by
  induction l with
  | nil => simp [Rows.uptoBulkAll]
  | cons x r ih => have := bulk_one x; simp only [Rows.uptoBulkAll, List.length_cons]; omega
theorem open_row {α H : Type} [Inhabited α] {enc : TypeId × Value → H} {W : World} {spare : Nat → Bool} {held : Bool} {P : Program} (cells : α → List Value) (k : Nat) (h0 : 0 < k) (hk : ∀ x, (cells x).length = k) (Q : α → DataW H → Prop) {t e : TypeId} (ht : P.underlying t = some (.slice e)) (hc : P.cellsOf e = k)
    (hel : ∀ n cs y, DataW.trod enc P W 0 spare held n e cs = some y → ∃ x, cs = cells x ∧ Q x y.1) {fuel : Nat} {cs : List Value} {y : DataW H × List MemPlace} (h : DataW.trod enc P W 0 spare held fuel t cs = some y) :
    ∃ (A : Option Addr) (n c : Nat) (xs : List α), cs = [.slice A n c] ∧ n ≤ c ∧ xs.length = n ∧ Reads W W.heap.size k A n (flatC cells xs) ∧ (∀ x ∈ xs, ∃ d, Q x d ∧ Rows.uptoBulk d ≤ Rows.uptoBulk y.1) ∧ n ≤ Rows.uptoBulk y.1 := by
  rcases Go.Deep.open_slice ht h with ⟨rfl, rfl⟩ | ⟨a, len, cap, m, n, D, Pl, rfl, -, hl, -, hm, rfl, hx⟩
  · exact ⟨none, 0, 0, [], rfl, Nat.le_refl _, rfl, ⟨by simp [flatC], fun h => by omega⟩, fun x hx => by simp at hx, Nat.zero_le _⟩
  have hlm : len ≤ m := by rw [hm]; split <;> omega
  rw [hc] at hx
  obtain ⟨E, hE⟩ := Go.Deep.choose_lt (α := α) (p := fun i x => W.cells? 0 (a.add (i * k)) k = some (cells x) ∧ Q x (D i)) (n := len) (fun i hi => by
    obtain ⟨cs', h1, h2⟩ := hx i (by omega)
    obtain ⟨x, rfl, hq⟩ := hel n cs' (D i, Pl i) h2
    exact ⟨x, h1, hq⟩)
  have hmem : ∀ i, i < len → Rows.uptoBulk (D i) ≤ Rows.uptoBulk (DataW.slice ((List.range len).map D) ((List.range (m - len)).map fun j => D (len + j))) := fun i hi => by
    have h1 := bulk_part (d := D i) (l := (List.range len).map D) (List.mem_map.2 ⟨i, List.mem_range.2 hi, rfl⟩)
    simp only [Rows.uptoBulk]
    omega
  have hlen : len ≤ Rows.uptoBulk (DataW.slice ((List.range len).map D) ((List.range (m - len)).map fun j => D (len + j))) := by
    have h1 := bulk_length ((List.range len).map D)
    rw [List.length_map, List.length_range] at h1
    simp only [Rows.uptoBulk]
    omega
  refine ⟨some a, len, cap, (List.range len).map E, rfl, hl, by simp, ⟨?_, fun hn => ?_⟩, fun x hx => ?_, hlen⟩
  · have : ∀ l : List α, (flatC cells l).length = l.length * k := fun l => by
      induction l with
      | nil => simp [flatC]
      | cons x l ih =>
        show (cells x ++ flatC cells l).length = _
        rw [List.length_append, hk, ih, List.length_cons, Nat.succ_mul]
        omega
    rw [this]
    simp
  · have g0 := hE 0 hn
    obtain ⟨_, _, hcell0⟩ := World.cells?_some g0.1
    have c0 := hcell0 0 h0
    have hs0 : (cells (E 0))[0]? = some ((cells (E 0))[0]'(by rw [hk]; exact h0)) := List.getElem?_eq_getElem _
    rw [hs0] at c0
    have e0 : (a.add (0 * k)).add 0 = a := by rw [Nat.zero_mul]; rfl
    rw [e0] at c0
    have hs := World.cell?_spot c0
    obtain ⟨b, off, spot⟩ := a
    simp only at hs
    subst hs
    refine ⟨b, off, rfl, World.block_lt_of_cell? W _ c0, fun idx u hu => ?_⟩
    have hi : idx < len * k := by
      have h1 := (List.getElem?_eq_some_iff.1 hu).1
      have h2 : ∀ l : List α, (flatC cells l).length = l.length * k := fun l => by
        induction l with
        | nil => simp [flatC]
        | cons x l ih =>
          show (cells x ++ flatC cells l).length = _
          rw [List.length_append, hk, ih, List.length_cons, Nat.succ_mul]
          omega
      rw [h2] at h1
      simpa using h1
    have hj : idx / k < len := Nat.div_lt_of_lt_mul (by rw [Nat.mul_comm]; exact hi)
    have hr : idx % k < k := Nat.mod_lt _ h0
    have hx : ((List.range len).map E)[idx / k]? = some (E (idx / k)) := by rw [List.getElem?_map, List.getElem?_range hj]; rfl
    have hu2 : (cells (E (idx / k)))[idx % k]? = some ((cells (E (idx / k)))[idx % k]'(by rw [hk]; exact hr)) := List.getElem?_eq_getElem _
    have h3 := flatC_at cells k hk _ (idx / k) (E (idx / k)) hx (idx % k) _ hu2
    have e1 : idx / k * k + idx % k = idx := by rw [Nat.mul_comm]; exact Nat.div_add_mod idx k
    rw [e1, hu] at h3
    obtain ⟨_, _, hcell⟩ := World.cells?_some (hE (idx / k) hj).1
    have h4 := hcell (idx % k) hr
    rw [hu2, ← h3, Go.Deep.add_add, e1, add_plain] at h4
    exact h4
  · obtain ⟨i, hi, rfl⟩ := List.mem_map.1 hx
    have hi := List.mem_range.1 hi
    exact ⟨D i, (hE i hi).2, hmem i hi⟩
instance : Inhabited En := ⟨⟨0, 0, ⟨0, 0, ⟨#[]⟩, false, 0⟩⟩⟩
theorem open_ent {H : Type} {enc : TypeId × Value → H} {W : World} {spare : Nat → Bool} {held : Bool} (n : Nat) (cs : List Value) (y : DataW H × List MemPlace)
    (h : DataW.trod enc Tryz.prog W 0 spare held n 46 cs = some y) : ∃ e : En, cs = e.cells ∧ Is64 e.v.num ∧ e.v.str.size ≤ Rows.uptoBulk y.1 := by
  obtain ⟨xs, m, -, hx, hl, hlen, hg⟩ := DataW.trod_struct Tryz.underlying46 h
  have hc : Tryz.prog.cellsOf 46 = 7 := by kernel_rfl
  have h1 : Tryz.prog.cellsOf 44 = 2 := by kernel_rfl
  have h2 : Tryz.prog.cellsOf 29 = 5 := by kernel_rfl
  have h3 : Tryz.prog.cellsOf 3 = 1 := by kernel_rfl
  rw [hc] at hl
  match cs, hl, xs, hlen with
  | [c0, c1, c2, c3, c4, c5, c6], _, [x0, x1], _ =>
    have g0 := hg 0 _ rfl
    have g1 := hg 1 _ rfl
    simp only [h1, h2, List.drop, List.take, List.getElem?_cons_zero, List.getElem?_cons_succ] at g0 g1
    obtain ⟨ys, m2, -, hy, hl2, hlen2, hg2⟩ := DataW.trod_struct Tryz.underlying44 g0
    match ys, hlen2 with
    | [y0, y1], _ =>
      have k0 := hg2 0 _ rfl
      have k1 := hg2 1 _ rfl
      simp only [h3, List.drop, List.take, List.getElem?_cons_zero, List.getElem?_cons_succ] at k0 k1
      obtain ⟨r, e0, z0, -⟩ := DataW.trod_int Tryz.underlying3 k0
      obtain ⟨c, e1, z1, -⟩ := DataW.trod_int Tryz.underlying3 k1
      obtain ⟨v, e2, i2, z2⟩ := open_valW g1
      cases e0; cases e1
      simp only [V.cells, List.cons.injEq, and_true] at e2
      obtain ⟨rfl, rfl, rfl, rfl, rfl⟩ := e2
      subst z2
      refine ⟨⟨r, c, v⟩, rfl, i2, ?_⟩
      rw [hx]
      simp [Rows.uptoBulk, Rows.uptoBulkAll, datW]
      omega
theorem open_arg {H : Type} {enc : TypeId × Value → H} {W : World} {spare : Nat → Bool} {held : Bool} (n : Nat) (cs : List Value) (y : DataW H × List MemPlace)
    (h : DataW.trod enc Tryz.prog W 0 spare held n 42 cs = some y) : ∃ p : Arg × List En, cs = p.1.cells ∧ EntsAt W p.1 p.2 ∧ Is64 p.1.val.num ∧ (∀ e ∈ p.2, Is64 e.v.num) ∧ p.1.val.str.size ≤ Rows.uptoBulk y.1 ∧ (∀ e ∈ p.2, e.v.str.size ≤ Rows.uptoBulk y.1) ∧ p.1.n ≤ Rows.uptoBulk y.1 := by
  obtain ⟨xs, m, -, hx, hl, hlen, hg⟩ := DataW.trod_struct Tryz.underlying42 h
  have hc : Tryz.prog.cellsOf 42 = 11 := by kernel_rfl
  have h0 : Tryz.prog.cellsOf 4 = 1 := by kernel_rfl
  have h1 : Tryz.prog.cellsOf 39 = 4 := by kernel_rfl
  have h2 : Tryz.prog.cellsOf 29 = 5 := by kernel_rfl
  have h3 : Tryz.prog.cellsOf 3 = 1 := by kernel_rfl
  have h4 : Tryz.prog.cellsOf 40 = 1 := by kernel_rfl
  rw [hc] at hl
  match cs, hl, xs, hlen with
  | [c0, c1, c2, c3, c4, c5, c6, c7, c8, c9, c10], _, [x0, x1, x2, x3], _ =>
    have g0 := hg 0 _ rfl
    have g1 := hg 1 _ rfl
    have g2 := hg 2 _ rfl
    have g3 := hg 3 _ rfl
    simp only [h0, h1, h2, h4, List.drop, List.take, List.getElem?_cons_zero, List.getElem?_cons_succ] at g0 g1 g2 g3
    obtain ⟨b, e0, z0⟩ := DataW.trod_bool Tryz.underlying4 g0
    obtain ⟨v, e1, i1, z1⟩ := open_valW g1
    obtain ⟨ys, m2, -, hy, hl2, hlen2, hg2⟩ := DataW.trod_struct Tryz.underlying39 g2
    obtain ⟨A, k, c, es, e3, hkc, hel, hR, hQ, hk⟩ := open_row En.cells 7 (by decide) (fun _ => rfl) (fun e d => Is64 e.v.num ∧ e.v.str.size ≤ Rows.uptoBulk d) Tryz.underlying40 (by kernel_rfl) open_ent g3
    match ys, hlen2 with
    | [y0, y1, y2, y3], _ =>
      have k0 := hg2 0 _ rfl
      have k1 := hg2 1 _ rfl
      have k2 := hg2 2 _ rfl
      have k3 := hg2 3 _ rfl
      simp only [h3, List.drop, List.take, List.getElem?_cons_zero, List.getElem?_cons_succ] at k0 k1 k2 k3
      obtain ⟨r0, f0, w0, -⟩ := DataW.trod_int Tryz.underlying3 k0
      obtain ⟨r1, f1, w1, -⟩ := DataW.trod_int Tryz.underlying3 k1
      obtain ⟨r2, f2, w2, -⟩ := DataW.trod_int Tryz.underlying3 k2
      obtain ⟨r3, f3, w3, -⟩ := DataW.trod_int Tryz.underlying3 k3
      cases e0; cases f0; cases f1; cases f2; cases f3; cases e3
      simp only [V.cells, List.cons.injEq, and_true] at e1
      obtain ⟨rfl, rfl, rfl, rfl, rfl⟩ := e1
      subst z1
      have hb3 : Rows.uptoBulk x3.1 ≤ Rows.uptoBulk y.1 := by
        rw [hx]
        simp [Rows.uptoBulk, Rows.uptoBulkAll]
        omega
      refine ⟨(⟨b, v, r0, r1, r2, r3, A, k, c⟩, es), rfl, ⟨hel, hR⟩, i1, fun e he => ?_, ?_, fun e he => ?_, by simp only; omega⟩
      · obtain ⟨d, h, -⟩ := hQ e he
        exact h.1
      · rw [hx]
        simp [Rows.uptoBulk, Rows.uptoBulkAll, datW]
        omega
      · obtain ⟨d, h, h'⟩ := hQ e he
        have := h.2
        omega
instance : Inhabited (Arg × List En) := ⟨p0A⟩
theorem flat_args (pl : List (Arg × List En)) : flatC (fun p : Arg × List En => p.1.cells) pl = argFlat (pl.map Prod.fst) := by
  induction pl with
  | nil => rfl
  | cons p pl ih =>
    rw [List.map_cons, argFlat_cons, ← ih]
    rfl
theorem open_args {H : Type} {enc : TypeId × Value → H} {W : World} {v : Value} {d : DataW H} {ps : List MemPlace} {r : Reach} {b0 : Nat} (hv : Value.okWide Tryz.prog W r b0 22 v) (h : DataW.Trod enc Tryz.prog W 0 (fun _ => true) true 22 v d ps) (hb : Rows.uptoBulk d ≤ 1048576) (hp : Pow10 W) (hM : MaxL W) :
    ∃ (A : Option Addr) (n c : Nat) (pl : List (Arg × List En)), v = .slice A n c ∧ LawIn W pl A n c := by
  obtain ⟨A, n, c, rfl⟩ := okWide_slice Tryz.underlying22 hv
  obtain ⟨fuel, hf⟩ := h
  obtain ⟨A', n', c', pl, e, hnc, hlen, hR, hQ, hn⟩ := open_row (fun p : Arg × List En => p.1.cells) 11 (by decide) (fun _ => rfl) (fun p d => EntsAt W p.1 p.2 ∧ Is64 p.1.val.num ∧ (∀ e ∈ p.2, Is64 e.v.num) ∧ p.1.val.str.size ≤ Rows.uptoBulk d ∧ (∀ e ∈ p.2, e.v.str.size ≤ Rows.uptoBulk d) ∧ p.1.n ≤ Rows.uptoBulk d) Tryz.underlying22 (by kernel_rfl) open_arg hf
  have e1 : Value.slice A n c = .slice A' n' c' := by simpa [Value.cells] using e
  cases e1
  simp only at hn hQ
  rw [flat_args] at hR
  refine ⟨A, n, c, pl, rfl, hR, fun p hp => ?_, by omega, hnc, fun p hp => ?_, fun p hp => ?_, fun p hp => ?_, hp, hM⟩
  · obtain ⟨d, hq, -⟩ := hQ p hp
    exact hq.1
  · obtain ⟨d, hq, -⟩ := hQ p hp
    exact ⟨hq.2.1, hq.2.2.1⟩
  · obtain ⟨d, hq, hd⟩ := hQ p hp
    exact ⟨by have := hq.2.2.2.1; omega, fun e he => by have := hq.2.2.2.2.1 e he; omega⟩
  · obtain ⟨d, hq, hd⟩ := hQ p hp
    have := hq.2.2.2.2.2
    omega
end Go.Proofs.YtegbhdeaicgpkaaGreatDoor
