/-
  The table: all, Known, New.
-/
import Derived.Test.YtpcihefhagipmaaGreatDoorAll
namespace Go.Proofs.YtpcihefhagipmaaGreatDoor
open Go Go.RowKit

/-- The table as New makes it. -/
def Fresh (w : World) (b : Nat) : Prop := w.cell? ⟨b, 0, none⟩ = some (.int .u32 0) ∧ w.cell? ⟨b, 1, none⟩ = some (.int .i32 0) ∧ w.cell? ⟨b, 3, none⟩ = some (.map none) ∧ ∀ i, w.frozen? ⟨b, i, none⟩ = false
/-- A table, asked or not yet asked. -/
def TabOK (w : World) (b : Nat) : Prop := Ready w b ∨ Fresh w b
theorem Ready.lt {w : World} {b : Nat} (h : Ready w b) : b < w.heap.size := by
  obtain ⟨d, m, _, h0, _⟩ := h
  exact cell_lt h0
theorem TabOK.lt {w : World} {b : Nat} (h : TabOK w b) : b < w.heap.size := by
  rcases h with h | h
  · exact h.lt
  · exact cell_lt h.1
theorem Ready.below {w w' : World} {b : Nat} (h : Ready w b) (hb : Below w.heap.size w w') : Ready w' b := by
  have hl := h.lt
  obtain ⟨d, m, h1, h2, h3, h4⟩ := h
  exact ⟨d, m, h1, (World.cell?_of_block (a := ⟨b, 0, none⟩) (hb.block b hl)).trans h2, (World.cell?_of_block (a := ⟨b, 3, none⟩) (hb.block b hl)).trans h3, h4.below hb⟩
theorem TabOK.below {w w' : World} {b : Nat} (h : TabOK w b) (hb : Below w.heap.size w w') : TabOK w' b := by
  rcases h with h | h
  · exact .inl (h.below hb)
  · have hl := cell_lt h.1
    refine .inr ⟨?_, ?_, ?_, fun i => ?_⟩
    · exact (World.cell?_of_block (a := ⟨b, 0, none⟩) (hb.block b hl)).trans h.1
    · exact (World.cell?_of_block (a := ⟨b, 1, none⟩) (hb.block b hl)).trans h.2.1
    · exact (World.cell?_of_block (a := ⟨b, 3, none⟩) (hb.block b hl)).trans h.2.2.1
    · exact (World.frozen?_of_block (a := ⟨b, i, none⟩) (hb.block b hl)).trans (h.2.2.2 i)

theorem once_any (b pl : Nat) (hpb : pl ≠ b) (w : World) (h : TabOK w b) (hp : w.cell? ⟨pl, 0, none⟩ = some (.pointer (some ⟨b, 0, none⟩))) :
    Calls Tryz.prog 32 #[.pointer (some ⟨b, 0, none⟩), .func (.func 33) #[] #[.pointer (some ⟨pl, 0, none⟩)]] w fun e w' => e = .returned (.tuple #[]) ∧ Ready w' b ∧ Turn b w w' := by
  rcases h with h | ⟨h0, h1, h3, f⟩
  · have hr := h
    obtain ⟨d, m, hd, h0, _⟩ := h
    exact (once_done ⟨b, 0, none⟩ d hd _ w h0).mono fun e w' ⟨e1, e2⟩ => by subst e2; exact ⟨e1, hr, Turn.refl _ _⟩
  · exact once_first b pl hpb (.map none) rfl w hp h0 h1 h3 f

set_option maxRecDepth 100000 in
theorem table_all (b : Nat) (w : World) (h : TabOK w b) : Calls Tryz.prog 20 #[.pointer (some ⟨b, 0, none⟩)] w fun e w' => (∃ m, e = .returned (.map (some m)) ∧ MapInv w' m) ∧ Ready w' b ∧ Turn b w w' := by
  have hmf : ∀ (fn : Fn) (first cap : Array Value) (w : World), (Instr.makeFunc fn first cap).run Tryz.prog w = .ok (.func fn first cap) w := fun _ _ _ _ => rfl
  have hlt := h.lt
  have hal : ∀ o, Below w.heap.size w (w.alloc o) := fun o => (Below.refl _ _).alloc (Nat.le_refl _) o
  have hta : ∀ o, TabOK (w.alloc o) b := fun o => h.below (hal o)
  have hne : w.heap.size ≠ b := by omega
  go_enter Tryz.func20, Tryz.ntmps20
  go_wp2_with (first | (go_at_call 32; refine (once_any b w.heap.size hne _ (hta _) (by go_simp)).mono ?_; rintro e w1 ⟨rfl, ⟨d, m, hd, h0, h3, hM⟩, hT⟩; have hp := hT.cell hne (v := .pointer (some ⟨b, 0, none⟩)) (i := 0) (by go_simp); replace hT := (Turn.of_below (hal _)).trans hT))
  go_ret
  exact ⟨⟨m, rfl, hM⟩, ⟨d, m, hd, h0, h3, hM⟩, hT⟩

section
variable {ops : Array Oper} {rest : List Oper} {o : Oper} {a : Act} {Q : Exit → Act → World → Prop}
/-- The index asked, at the operation. -/
theorem wpList_lookI {w : World} {m : Nat} (h : MapInv w m) (mm x : Operand) (hg : o.guard = none) (hop : o.op = Op.lookup 60 mm x true) (hm : a.eval mm = .map (some m)) (s : ByteArray) (hx : a.eval x = .string s)
    (hY : ∀ (fn : Fn) (first cap : Array Value) (fn1 : Fn) (first1 cap1 : Array Value), RowKit.Hid (EntE w s (.agg #[.func fn first cap, .func fn1 first1 cap1]) ∧ D1 50 s = true) → wpList Tryz.prog ops Q rest (a.put o.dst (.tuple #[.agg #[.func fn first cap, .func fn1 first1 cap1], .bool true])) w)
    (hN : RowKit.Hid (D1 50 s = false) → wpList Tryz.prog ops Q rest (a.put o.dst (.tuple #[.agg #[.nilFunc, .nilFunc], .bool false])) w) : wpList Tryz.prog ops Q (o :: rest) a w := by
  obtain ⟨L, h3, h4, h5, _⟩ := h
  have hlt : m < w.heap.size := (Array.getElem?_eq_some_iff.1 h3).1
  have e := setMap_self h3
  have := wpList_look0 (P := Tryz.prog) (ops := ops) (rest := rest) (o := o) (a := a) (Q := Q) hg 60 mm x hop 9 67 Tryz.underlying9 Tryz.underlying60 (.agg #[.nilFunc, .nilFunc]) (fun w => by kernel_rfl) w m L hm hlt s hx
  rw [e] at this
  refine this (fun v hv => ?_) (fun hv => ?_)
  · have hE := h4 s v hv
    have hD : D1 50 s = true := by rw [← h5 s, hv]; rfl
    rcases hE with ⟨x, y, d, e1, e2⟩ | ⟨i, e1, e2⟩
    · obtain ⟨pl, pm, pd, f, ev, hr⟩ := e2
      subst ev
      exact hY _ _ _ _ _ _ (Lib.hid ⟨.inl ⟨x, y, d, e1, pl, pm, pd, f, rfl, hr⟩, hD⟩)
    · obtain ⟨pb, pn, ev, hr⟩ := e2
      subst ev
      exact hY _ _ _ _ _ _ (Lib.hid ⟨.inr ⟨i, e1, pb, pn, rfl, hr⟩, hD⟩)
  · have hD : D1 50 s = false := by rw [← h5 s, hv]; rfl
    exact hN (Lib.hid hD)
end

set_option maxRecDepth 100000 in
theorem table_Known (b : Nat) (s : ByteArray) (w : World) (h : TabOK w b) : Calls Tryz.prog 15 #[.pointer (some ⟨b, 0, none⟩), .string s] w fun e w' => e = .returned (.bool (D1 50 s)) ∧ Ready w' b ∧ Turn b w w' := by
  go_enter Tryz.func15, Tryz.ntmps15
  go_wp2_with (first | (go_at_call 20; refine (table_all b _ h).mono ?_; rintro e w1 ⟨⟨m, rfl, hM⟩, hR, hT⟩) | (at_lookup; refine wpList_lookI hM _ _ rfl rfl rfl _ rfl ?_ ?_))
  · intro fn first cap fn1 first1 cap1 hv
    go_wp2
    go_ret
    refine ⟨by rw [hv.out.2]; rfl, hR.below (by repeat (first | with_reducible exact Below.refl _ _ | with_reducible assumption | with_reducible refine below_more' ?_ (by go_size) | with_reducible refine bel_alloc ?_ _ (by go_size) | with_reducible refine Below.drew ?_ | with_reducible refine Below.setCell ?_ (by go_size) _ | with_reducible refine below_drewN ?_ _)), hT.trans (.of_below (by repeat (first | with_reducible exact Below.refl _ _ | with_reducible assumption | with_reducible refine below_more' ?_ (by go_size) | with_reducible refine bel_alloc ?_ _ (by go_size) | with_reducible refine Below.drew ?_ | with_reducible refine Below.setCell ?_ (by go_size) _ | with_reducible refine below_drewN ?_ _)))⟩
  · intro hv
    go_wp2
    go_ret
    refine ⟨by rw [hv.out]; rfl, hR.below (by repeat (first | with_reducible exact Below.refl _ _ | with_reducible assumption | with_reducible refine below_more' ?_ (by go_size) | with_reducible refine bel_alloc ?_ _ (by go_size) | with_reducible refine Below.drew ?_ | with_reducible refine Below.setCell ?_ (by go_size) _ | with_reducible refine below_drewN ?_ _)), hT.trans (.of_below (by repeat (first | with_reducible exact Below.refl _ _ | with_reducible assumption | with_reducible refine below_more' ?_ (by go_size) | with_reducible refine bel_alloc ?_ _ (by go_size) | with_reducible refine Below.drew ?_ | with_reducible refine Below.setCell ?_ (by go_size) _ | with_reducible refine below_drewN ?_ _)))⟩
end Go.Proofs.YtpcihefhagipmaaGreatDoor
