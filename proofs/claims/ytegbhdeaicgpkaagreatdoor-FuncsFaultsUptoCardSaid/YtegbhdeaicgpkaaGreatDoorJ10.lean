/-
  Parts of a proof: Once, All, Tab, TabT, TabN.
-/
import Derived.Test.YtegbhdeaicgpkaaGreatDoorJ09
import Derived.Tactics2
import Derived.Defers
import Derived.Laws.Pointers
import Derived.Laws.LoneSync
import Derived.RegionTactic
import Derived.RegionCalls
import Derived.ChangeAlike
set_option linter.all false
namespace Go.Proofs.YtegbhdeaicgpkaaGreatDoor
open Go Go.RowKit
theorem o_disable (w : World) : (callFunc 290 #[]).run Tryz.prog w = .ok (.value (.tuple #[])) w := run_call_mark0 Tryz.func290 (by kernel_rfl) (by kernel_rfl) (by kernel_rfl) .disable (by kernel_rfl) w
theorem o_enable (w : World) : (callFunc 292 #[]).run Tryz.prog w = .ok (.value (.tuple #[])) w := run_call_mark0 Tryz.func292 (by kernel_rfl) (by kernel_rfl) (by kernel_rfl) .enable (by kernel_rfl) w
theorem o_acquire (a : Addr) (w : World) : (callFunc 293 #[.pointer (some a)]).run Tryz.prog w = .ok (.value (.tuple #[])) w := run_call_marked Tryz.func293 (by kernel_rfl) (by kernel_rfl) (by kernel_rfl) .acquire (by kernel_rfl) a w
theorem o_releaseMerge (a : Addr) (w : World) : (callFunc 295 #[.pointer (some a)]).run Tryz.prog w = .ok (.value (.tuple #[])) w := run_call_marked Tryz.func295 (by kernel_rfl) (by kernel_rfl) (by kernel_rfl) .releaseMerge (by kernel_rfl) a w
theorem o_store (a : Addr) (x : Value) (u : FrameMode) (w : World) (hc : w.cell? a = some x) (hz : w.frozen? a = false) :
    CallsD Tryz.prog 204 #[.pointer (some a), .bool true] u w fun e u' w' => u' = u ∧ (e = .returned (.tuple #[]) ∧ w' = w.drew.setCell a (.int .u32 1)) := by
  have hc' : w.drew.cell? a = some x := by go_simp
  have hz' : w.drew.frozen? a = false := by go_simp
  have hst := run_call_store (P := Tryz.prog) Tryz.func246 (by kernel_rfl) (by kernel_rfl) (by kernel_rfl) (by kernel_rfl) (k := .u32) (y := 1) hc' hz'
  go_enter_d Tryz.func204, Tryz.ntmps204
  go_wp2
  go_region_calls
  all_goals (go_end0; exact ⟨rfl, rfl⟩)
set_option maxRecDepth 100000 in
theorem o_unlock (a : Addr) (u : FrameMode) (w : World) (hc : w.cell? a = some (.int .i32 1)) (hz : w.frozen? a = false) :
    CallsD Tryz.prog 203 #[.pointer (some a)] u w fun e u' w' => u' = u ∧ (e = .returned (.tuple #[]) ∧ w' = w.setCell a (.int .i32 0)) := by
  have hd := o_disable
  have he := o_enable
  have hr := o_releaseMerge
  have hadd := run_call_add (P := Tryz.prog) Tryz.func296 (by kernel_rfl) (by kernel_rfl) (by kernel_rfl) .i32 (by kernel_rfl) (y := -1) (s := 0) hc hz (by simp [go_sem]; rfl)
  have hcv := run_convert_to_unsafe (P := Tryz.prog) (src := 305) (dst := 283) Tryz.underlying305 Tryz.underlying283 (by kernel_rfl) hc
  go_enter_d Tryz.func203, Tryz.ntmps203
  go_wp2
  all_goals go_end0
  all_goals go_wp2
  all_goals go_end0
  all_goals exact ⟨rfl, rfl⟩
set_option maxRecDepth 100000 in
theorem o_lock (a : Addr) (w : World) (hc : w.cell? a = some (.int .i32 0)) (hz : w.frozen? a = false) :
    Calls Tryz.prog 202 #[.pointer (some a)] w fun e w' => e = .returned (.tuple #[]) ∧ w' = w.setCell a (.int .i32 1) := by
  have hd := o_disable
  have he := o_enable
  have ha := o_acquire
  have hcas := run_call_cas_hit (P := Tryz.prog) Tryz.func291 (by kernel_rfl) (by kernel_rfl) (by kernel_rfl) .i32 (by kernel_rfl) (y := 1) hc hz
  have hc' : (w.setCell a (.int .i32 1)).cell? a = some (.int .i32 1) := World.cell?_setCell_same w a _ hc
  have hcv := run_convert_to_unsafe (P := Tryz.prog) (src := 305) (dst := 283) Tryz.underlying305 Tryz.underlying283 (by kernel_rfl) hc'
  go_enter Tryz.func202, Tryz.ntmps202
  go_wp2
  all_goals first | go_end0 | (simp only [Exit.inBlock, Exit.then]; refine bodyPost_ret (results_none rfl _ _ _) rfl ?_) | refine bodyPost_ret (results_none rfl _ _ _) rfl ?_
  all_goals go_wp2
  all_goals go_end0
  all_goals exact ⟨rfl, rfl⟩
end Go.Proofs.YtegbhdeaicgpkaaGreatDoor
namespace Go.Proofs.YtegbhdeaicgpkaaGreatDoor
open Go Go.RowKit
def Laid (w : World) (b : Nat) (e : Ending) (w' : World) : Prop := e = .returned (.tuple #[]) ∧ (∃ m, w'.cell? ⟨b, 3, none⟩ = some (.map (some m)) ∧ MapInv w' m) ∧ Turn b w w' ∧ (∀ i, i ≠ 3 → w'.cell? ⟨b, i, none⟩ = w.cell? ⟨b, i, none⟩) ∧ ∀ i, w'.frozen? ⟨b, i, none⟩ = w.frozen? ⟨b, i, none⟩
theorem laid_of {w w1 : World} {b m : Nat} {x : Value} (hc : w.cell? ⟨b, 3, none⟩ = some x) (hx : tame x = false) (hM : MadeInv w m (D1 50) w1) : Laid w b (.returned (.tuple #[])) (w1.setCell ⟨b, 3, none⟩ (.map (some m))) := by
  have hb := hM.since
  have hlt := cell_lt hc
  have hc1 : w1.cell? ⟨b, 3, none⟩ = some x := (World.cell?_of_block (a := ⟨b, 3, none⟩) (hb.block b hlt)).trans hc
  refine ⟨rfl, ⟨m, World.cell?_setCell_same _ _ _ hc1, hM.map.setCell hc1 hx⟩, (Turn.of_below hb).setCell _ _, fun i hi => ?_, fun i => ?_⟩
  · exact (World.cell?_setCell_other _ _ _ _ (by simp [Ne.symm hi])).trans (World.cell?_of_block (a := ⟨b, i, none⟩) (hb.block b hlt))
  · rw [World.frozen?_setCell]
    exact World.frozen?_of_block (a := ⟨b, i, none⟩) (hb.block b hlt)
set_option maxRecDepth 100000 in
theorem all_made (b pl : Nat) (x3 : Value) (hx : tame x3 = false) (w : World) (hp : w.cell? ⟨pl, 0, none⟩ = some (.pointer (some ⟨b, 0, none⟩))) (h3 : w.cell? ⟨b, 3, none⟩ = some x3) (f3 : w.frozen? ⟨b, 3, none⟩ = false) :
    Calls Tryz.prog 48 #[.pointer (some ⟨pl, 0, none⟩)] w fun e w' => Laid w b e w' := by
  have hlb := cell_lt h3
  have hlp := cell_lt hp
  go_enter Tryz.func48, Tryz.ntmps48
  go_wp2
  go_region_with (first | (go_at_call 49; refine (funcs_made _).mono ?_; rintro e w1 ⟨m, rfl, hM⟩; obtain ⟨l, n, rfl⟩ := more_of_below hM.since))
  all_goals
    go_end0
    have e : more (w.setCell ⟨b, 3, none⟩ (.map (some m))) l n = (more w.drew l n).setCell ⟨b, 3, none⟩ (.map (some m)) := (more_setCell (w := w.drew) hlb).symm
    rw [e]
    exact laid_of (w := w.drew) h3 hx hM
theorem o_load (a : Addr) (d : Int) (w : World) (h0 : w.cell? a = some (.int .u32 d)) : Calls Tryz.prog 139 #[.pointer (some a)] w fun e w' => e = .returned (.bool (d != 0)) ∧ w' = w := by
  have hl := run_call_load (P := Tryz.prog) Tryz.func201 (by kernel_rfl) (by kernel_rfl) (by kernel_rfl) .u32 (by kernel_rfl) h0
  go_enter Tryz.func139, Tryz.ntmps139
  go_wp2
  go_ret
  exact ⟨rfl, rfl⟩
def Ready (w : World) (b : Nat) : Prop := ∃ d m, ¬ d = 0 ∧ w.cell? ⟨b, 0, none⟩ = some (.int .u32 d) ∧ w.cell? ⟨b, 3, none⟩ = some (.map (some m)) ∧ MapInv w m
set_option maxRecDepth 100000 in
set_option maxHeartbeats 1600000 in
theorem once_slow (b pl : Nat) (hpb : pl ≠ b) (x3 : Value) (hx : tame x3 = false) (w : World) (hp : w.cell? ⟨pl, 0, none⟩ = some (.pointer (some ⟨b, 0, none⟩)))
    (h0 : w.cell? ⟨b, 0, none⟩ = some (.int .u32 0)) (h1 : w.cell? ⟨b, 1, none⟩ = some (.int .i32 0)) (h3 : w.cell? ⟨b, 3, none⟩ = some x3)
    (f : ∀ i, w.frozen? ⟨b, i, none⟩ = false) :
    Calls Tryz.prog 140 #[.pointer (some ⟨b, 0, none⟩), .func (.func 48) #[] #[.pointer (some ⟨pl, 0, none⟩)]] w fun e w' => e = .returned (.tuple #[]) ∧ Ready w' b ∧ Turn b w w' := by
  have f0 := f 0
  have f1 := f 1
  have f3 := f 3
  have hp1 : (w.setCell ⟨b, 1, none⟩ (.int .i32 1)).cell? ⟨pl, 0, none⟩ = some (.pointer (some ⟨b, 0, none⟩)) := (World.cell?_setCell_other _ ⟨b, 1, none⟩ ⟨pl, 0, none⟩ _ (by simp [hpb])).trans hp
  have h31 : (w.setCell ⟨b, 1, none⟩ (.int .i32 1)).cell? ⟨b, 3, none⟩ = some x3 := (World.cell?_setCell_other _ ⟨b, 1, none⟩ ⟨b, 3, none⟩ _ (by simp)).trans h3
  have h01 : (w.setCell ⟨b, 1, none⟩ (.int .i32 1)).cell? ⟨b, 0, none⟩ = some (.int .u32 0) := (World.cell?_setCell_other _ ⟨b, 1, none⟩ ⟨b, 0, none⟩ _ (by simp)).trans h0
  have h11 : (w.setCell ⟨b, 1, none⟩ (.int .i32 1)).cell? ⟨b, 1, none⟩ = some (.int .i32 1) := World.cell?_setCell_same w _ _ h1
  have fz : ∀ i, (w.setCell ⟨b, 1, none⟩ (.int .i32 1)).frozen? ⟨b, i, none⟩ = false := fun i => (World.frozen?_setCell _ _ _ _).trans (f i)
  have hT0 : Turn b w (w.setCell ⟨b, 1, none⟩ (.int .i32 1)) := (Turn.refl b w).setCell 1 _
  have hnot : ∀ (x : Bool) (w : World), (Op.unary .not (.bool x)).run Tryz.prog w = .ok (.bool (!x)) w := fun _ _ => rfl
  go_enter_defers Tryz.func140, Tryz.ntmps140
  go_wp2_with (first | (go_at_call 202; refine (o_lock ⟨b, 1, none⟩ _ (by go_simp) (by go_simp)).mono ?_; rintro e w' ⟨rfl, rfl⟩) | (go_at_call 139; refine (o_load _ 0 _ h01).mono ?_; rintro e w' ⟨rfl, rfl⟩) | (go_at_call 48; refine (all_made b pl x3 hx _ hp1 h31 (fz 3)).mono ?_; rintro e w1 ⟨rfl, ⟨m, hm3, hM⟩, hT, hc, hz⟩))
  have h0' : w1.cell? ⟨b, 0, none⟩ = some (.int .u32 0) := (hc 0 (by simp)).trans h01
  have h1' : w1.cell? ⟨b, 1, none⟩ = some (.int .i32 1) := (hc 1 (by simp)).trans h11
  have fz' : ∀ i, w1.frozen? ⟨b, i, none⟩ = false := fun i => (hz i).trans (fz i)
  have hT1 := hT0.trans hT
  clear hc hz hT hT0 fz f f0 f1 f3 h01 h11 h31 hp1 h0 h1 h3 hp hnot
  refine leaves_cons (f := 204) (args := #[.pointer (some ⟨b, 0, none⟩), .bool true]) (by simp) (by simp [go_sem]) ?_
  refine (o_store ⟨b, 0, none⟩ (.int .u32 0) .returning _ h0' (fz' 0)).mono ?_
  rintro e u' w'' ⟨rfl, rfl, rfl⟩
  refine leaves_cons (f := 203) (args := #[.pointer (some ⟨b, 1, none⟩)]) (by simp [settle]) (by simp [go_sem]) ?_
  have h1d : (w1.drew.setCell ⟨b, 0, none⟩ (.int .u32 1)).cell? ⟨b, 1, none⟩ = some (.int .i32 1) := (World.cell?_setCell_other _ ⟨b, 0, none⟩ ⟨b, 1, none⟩ _ (by simp)).trans h1'
  have f1d : (w1.drew.setCell ⟨b, 0, none⟩ (.int .u32 1)).frozen? ⟨b, 1, none⟩ = false := (World.frozen?_setCell _ _ _ _).trans (fz' 1)
  refine (o_unlock ⟨b, 1, none⟩ _ _ h1d f1d).mono ?_
  rintro e u' w'' ⟨rfl, rfl, rfl⟩
  have h0d : w1.drew.cell? ⟨b, 0, none⟩ = some (.int .u32 0) := h0'
  have hR : Ready ((w1.drew.setCell ⟨b, 0, none⟩ (.int .u32 1)).setCell ⟨b, 1, none⟩ (.int .i32 0)) b :=
    ⟨1, m, by simp, (World.cell?_setCell_other _ ⟨b, 1, none⟩ ⟨b, 0, none⟩ _ (by simp)).trans (World.cell?_setCell_same _ _ _ h0d),
      (World.cell?_setCell_other _ ⟨b, 1, none⟩ ⟨b, 3, none⟩ _ (by simp)).trans ((World.cell?_setCell_other _ ⟨b, 0, none⟩ ⟨b, 3, none⟩ _ (by simp)).trans hm3),
      (hM.drew.setCell h0d rfl).setCell h1d rfl⟩
  simp [Leaves, settle, results, Tryz.results140]
  exact ⟨hR, (hT1.drew.setCell 0 _).setCell 1 _⟩
set_option maxRecDepth 100000 in
theorem once_first (b pl : Nat) (hpb : pl ≠ b) (x3 : Value) (hx : tame x3 = false) (w : World) (hp : w.cell? ⟨pl, 0, none⟩ = some (.pointer (some ⟨b, 0, none⟩)))
    (h0 : w.cell? ⟨b, 0, none⟩ = some (.int .u32 0)) (h1 : w.cell? ⟨b, 1, none⟩ = some (.int .i32 0)) (h3 : w.cell? ⟨b, 3, none⟩ = some x3)
    (f : ∀ i, w.frozen? ⟨b, i, none⟩ = false) :
    Calls Tryz.prog 47 #[.pointer (some ⟨b, 0, none⟩), .func (.func 48) #[] #[.pointer (some ⟨pl, 0, none⟩)]] w fun e w' => e = .returned (.tuple #[]) ∧ Ready w' b ∧ Turn b w w' := by
  have hnot : ∀ (x : Bool) (w : World), (Op.unary .not (.bool x)).run Tryz.prog w = .ok (.bool (!x)) w := fun _ _ => rfl
  go_enter Tryz.func47, Tryz.ntmps47
  go_wp2_with (first | (go_at_call 139; refine (o_load _ 0 _ h0).mono ?_; rintro e w' ⟨rfl, rfl⟩) | (go_at_call 140; refine (once_slow b pl hpb x3 hx _ hp h0 h1 h3 f).mono ?_; rintro e w1 ⟨rfl, hR, hT⟩))
  go_end0
  exact ⟨rfl, hR, hT⟩
theorem once_done (a : Addr) (d : Int) (hd : ¬ d = 0) (fv : Value) (w : World) (h0 : w.cell? a = some (.int .u32 d)) :
    Calls Tryz.prog 47 #[.pointer (some a), fv] w fun e w' => e = .returned (.tuple #[]) ∧ w' = w := by
  have hnot : ∀ (x : Bool) (w : World), (Op.unary .not (.bool x)).run Tryz.prog w = .ok (.bool (!x)) w := fun _ _ => rfl
  have hd' : (d != 0) = true := by simp [hd]
  go_enter Tryz.func47, Tryz.ntmps47
  go_wp2_with (first | (go_at_call 139; refine (o_load _ d _ h0).mono ?_; rintro e w' ⟨rfl, rfl⟩))
  go_end0
  exact ⟨rfl, rfl⟩
end Go.Proofs.YtegbhdeaicgpkaaGreatDoor
namespace Go.Proofs.YtegbhdeaicgpkaaGreatDoor
open Go Go.RowKit
def Fresh (w : World) (b : Nat) : Prop := w.cell? ⟨b, 0, none⟩ = some (.int .u32 0) ∧ w.cell? ⟨b, 1, none⟩ = some (.int .i32 0) ∧ w.cell? ⟨b, 3, none⟩ = some (.map none) ∧ ∀ i, w.frozen? ⟨b, i, none⟩ = false
def TabOK (w : World) (b : Nat) : Prop := Ready w b ∨ Fresh w b
theorem Ready.lt {w : World} {b : Nat} (h : Ready w b) : b < w.heap.size := by
  obtain ⟨d, m, _, h0, _⟩ := h
  exact cell_lt h0
theorem TabOK.lt {w : World} {b : Nat} (h : TabOK w b) : b < w.heap.size := by
  rcases h with h | h
  · exact h.lt
  · exact cell_lt h.1
theorem Ready.below {w w' : World} {b : Nat} (h : Ready w b) (hb : Below w.heap.size w w') : Ready w' b := by
  have hl := h.lt
  obtain ⟨d, m, h1, h2, h3, h4⟩ := h
  exact ⟨d, m, h1, (World.cell?_of_block (a := ⟨b, 0, none⟩) (hb.block b hl)).trans h2, (World.cell?_of_block (a := ⟨b, 3, none⟩) (hb.block b hl)).trans h3, h4.below hb⟩
theorem TabOK.below {w w' : World} {b : Nat} (h : TabOK w b) (hb : Below w.heap.size w w') : TabOK w' b := by
  rcases h with h | h
  · exact .inl (h.below hb)
  · have hl := cell_lt h.1
    refine .inr ⟨?_, ?_, ?_, fun i => ?_⟩
    · exact (World.cell?_of_block (a := ⟨b, 0, none⟩) (hb.block b hl)).trans h.1
    · exact (World.cell?_of_block (a := ⟨b, 1, none⟩) (hb.block b hl)).trans h.2.1
    · exact (World.cell?_of_block (a := ⟨b, 3, none⟩) (hb.block b hl)).trans h.2.2.1
    · exact (World.frozen?_of_block (a := ⟨b, i, none⟩) (hb.block b hl)).trans (h.2.2.2 i)
theorem once_any (b pl : Nat) (hpb : pl ≠ b) (w : World) (h : TabOK w b) (hp : w.cell? ⟨pl, 0, none⟩ = some (.pointer (some ⟨b, 0, none⟩))) :
    Calls Tryz.prog 47 #[.pointer (some ⟨b, 0, none⟩), .func (.func 48) #[] #[.pointer (some ⟨pl, 0, none⟩)]] w fun e w' => e = .returned (.tuple #[]) ∧ Ready w' b ∧ Turn b w w' := by
  rcases h with h | ⟨h0, h1, h3, f⟩
  · have hr := h
    obtain ⟨d, m, hd, h0, _⟩ := h
    exact (once_done ⟨b, 0, none⟩ d hd _ w h0).mono fun e w' ⟨e1, e2⟩ => by subst e2; exact ⟨e1, hr, Turn.refl _ _⟩
  · exact once_first b pl hpb (.map none) rfl w hp h0 h1 h3 f
set_option maxRecDepth 100000 in
theorem table_all (b : Nat) (w : World) (h : TabOK w b) : Calls Tryz.prog 25 #[.pointer (some ⟨b, 0, none⟩)] w fun e w' => (∃ m, e = .returned (.map (some m)) ∧ MapInv w' m) ∧ Ready w' b ∧ Turn b w w' := by
  have hmf : ∀ (fn : Fn) (first cap : Array Value) (w : World), (Instr.makeFunc fn first cap).run Tryz.prog w = .ok (.func fn first cap) w := fun _ _ _ _ => rfl
  have hlt := h.lt
  have hal : ∀ o, Below w.heap.size w (w.alloc o) := fun o => (Below.refl _ _).alloc (Nat.le_refl _) o
  have hta : ∀ o, TabOK (w.alloc o) b := fun o => h.below (hal o)
  have hne : w.heap.size ≠ b := by omega
  go_enter Tryz.func25, Tryz.ntmps25
  go_wp2_with (first | (go_at_call 47; refine (once_any b w.heap.size hne _ (hta _) (by go_simp)).mono ?_; rintro e w1 ⟨rfl, ⟨d, m, hd, h0, h3, hM⟩, hT⟩; have hp := hT.cell hne (v := .pointer (some ⟨b, 0, none⟩)) (i := 0) (by go_simp); replace hT := (Turn.of_below (hal _)).trans hT))
  go_ret
  exact ⟨⟨m, rfl, hM⟩, ⟨d, m, hd, h0, h3, hM⟩, hT⟩
section
variable {ops : Array Oper} {rest : List Oper} {o : Oper} {a : Act} {Q : Exit → Act → World → Prop}
theorem wpList_lookI {w : World} {m : Nat} (h : MapInv w m) (mm x : Operand) (hg : o.guard = none) (hop : o.op = Op.lookup 79 mm x true) (hm : a.eval mm = .map (some m)) (s : ByteArray) (hx : a.eval x = .string s)
    (hY : ∀ (fn : Fn) (first cap : Array Value) (fn1 : Fn) (first1 cap1 : Array Value), RowKit.Hid (EntE w s (.agg #[.func fn first cap, .func fn1 first1 cap1]) ∧ D1 50 s = true) → wpList Tryz.prog ops Q rest (a.put o.dst (.tuple #[.agg #[.func fn first cap, .func fn1 first1 cap1], .bool true])) w)
    (hN : RowKit.Hid (D1 50 s = false) → wpList Tryz.prog ops Q rest (a.put o.dst (.tuple #[.agg #[.nilFunc, .nilFunc], .bool false])) w) : wpList Tryz.prog ops Q (o :: rest) a w := by
  obtain ⟨L, h3, h4, h5, _⟩ := h
  have hlt : m < w.heap.size := (Array.getElem?_eq_some_iff.1 h3).1
  have e := setMap_self h3
  have := wpList_look0 (P := Tryz.prog) (ops := ops) (rest := rest) (o := o) (a := a) (Q := Q) hg 79 mm x hop 9 87 Tryz.underlying9 Tryz.underlying79 (.agg #[.nilFunc, .nilFunc]) (fun w => by kernel_rfl) w m L hm hlt s hx
  rw [e] at this
  refine this (fun v hv => ?_) (fun hv => ?_)
  · have hE := h4 s v hv
    have hD : D1 50 s = true := by rw [← h5 s, hv]; rfl
    rcases hE with ⟨x, y, d, e1, e2⟩ | ⟨i, e1, e2⟩
    · obtain ⟨pl, pm, pd, f, ev, hr⟩ := e2
      subst ev
      exact hY _ _ _ _ _ _ (Lib.hid ⟨.inl ⟨x, y, d, e1, pl, pm, pd, f, rfl, hr⟩, hD⟩)
    · obtain ⟨pb, pn, ev, hr⟩ := e2
      subst ev
      exact hY _ _ _ _ _ _ (Lib.hid ⟨.inr ⟨i, e1, pb, pn, rfl, hr⟩, hD⟩)
  · have hD : D1 50 s = false := by rw [← h5 s, hv]; rfl
    exact hN (Lib.hid hD)
end
set_option maxRecDepth 100000 in
theorem table_Known (b : Nat) (s : ByteArray) (w : World) (h : TabOK w b) : Calls Tryz.prog 15 #[.pointer (some ⟨b, 0, none⟩), .string s] w fun e w' => e = .returned (.bool (D1 50 s)) ∧ Ready w' b ∧ Turn b w w' := by
  go_enter Tryz.func15, Tryz.ntmps15
  go_wp2_with (first | (go_at_call 25; refine (table_all b _ h).mono ?_; rintro e w1 ⟨⟨m, rfl, hM⟩, hR, hT⟩) | (at_lookup; refine wpList_lookI hM _ _ rfl rfl rfl _ rfl ?_ ?_))
  · intro fn first cap fn1 first1 cap1 hv
    go_wp2
    go_ret
    refine ⟨by rw [hv.out.2]; rfl, hR.below (by (with_reducible repeat' (first | exact .refl _ _ | assumption | refine bmP ?_ ?_ | refine baP ?_ _ ?_ | refine .drew ?_ | refine .setCell ?_ ?_ _ | refine bdP ?_ _)) <;> go_size), hT.trans (.of_below (by (with_reducible repeat' (first | exact .refl _ _ | assumption | refine bmP ?_ ?_ | refine baP ?_ _ ?_ | refine .drew ?_ | refine .setCell ?_ ?_ _ | refine bdP ?_ _)) <;> go_size))⟩
  · intro hv
    go_wp2
    go_ret
    refine ⟨by rw [hv.out]; rfl, hR.below (by (with_reducible repeat' (first | exact .refl _ _ | assumption | refine bmP ?_ ?_ | refine baP ?_ _ ?_ | refine .drew ?_ | refine .setCell ?_ ?_ _ | refine bdP ?_ _)) <;> go_size), hT.trans (.of_below (by (with_reducible repeat' (first | exact .refl _ _ | assumption | refine bmP ?_ ?_ | refine baP ?_ _ ?_ | refine .drew ?_ | refine .setCell ?_ ?_ _ | refine bdP ?_ _)) <;> go_size))⟩
end Go.Proofs.YtegbhdeaicgpkaaGreatDoor
namespace Go.Proofs.YtegbhdeaicgpkaaGreatDoor
open Go Go.RowKit
theorem singles1 (pl pm : Nat) (x y : Int) (A : Option Addr) (n c : Nat) (xs : List Bool) (w : World) (B : Nat) (h1 : w.cell? ⟨pl, 0, none⟩ = some (.int .i64 x)) (h2 : w.cell? ⟨pm, 0, none⟩ = some (.int .i64 y))
    (hr : Reads w B 1 A n (xs.map Value.bool)) (hm : n ≤ 9223372036854775807) :
    Calls Tryz.prog 248 #[.slice A n c, .pointer (some ⟨pl, 0, none⟩), .pointer (some ⟨pm, 0, none⟩)] w fun e w' => e = .returned (.bool (between x y n && !hasTrue xs)) ∧ Below w.heap.size w w' := by
  by_cases hx : x ≤ n
  · by_cases hy : n ≤ y
    · have e : (between x y n && !hasTrue xs) = !hasTrue xs := by simp [between, hx, hy]
      rw [e]
      clear e
      go_enter Tryz.func248, Tryz.ntmps248
      go_wp2_with fail
      refine (contains_bools A n c B xs _ (hr.keeps (by repeat (first | with_reducible exact keeps_refl _ | with_reducible assumption | with_reducible refine keeps_alloc ?_ _ | with_reducible refine keeps_more ?_ _ _ | with_reducible refine keeps_drew ?_ | with_reducible refine keeps_drewN ?_ _))) hm).mono ?_
      rintro e w1 ⟨rfl, rfl⟩
      clear hr
      go_wp2
      go_ret
      exact ⟨rfl, (by (with_reducible repeat' (first | exact .refl _ _ | assumption | refine bmP ?_ ?_ | refine baP ?_ _ ?_ | refine .drew ?_ | refine .setCell ?_ ?_ _ | refine bdP ?_ _)) <;> go_size)⟩
    · have e : (between x y n && !hasTrue xs) = false := by simp [between, hy]
      rw [e]
      clear e hr
      go_enter Tryz.func248, Tryz.ntmps248
      go_wp2
      go_ret
      exact ⟨rfl, (by (with_reducible repeat' (first | exact .refl _ _ | assumption | refine bmP ?_ ?_ | refine baP ?_ _ ?_ | refine .drew ?_ | refine .setCell ?_ ?_ _ | refine bdP ?_ _)) <;> go_size)⟩
  · have e : (between x y n && !hasTrue xs) = false := by simp [between, hx]
    rw [e]
    clear e hr
    go_enter Tryz.func248, Tryz.ntmps248
    go_wp2
    go_ret
    exact ⟨rfl, (by (with_reducible repeat' (first | exact .refl _ _ | assumption | refine bmP ?_ ?_ | refine baP ?_ _ ?_ | refine .drew ?_ | refine .setCell ?_ ?_ _ | refine bdP ?_ _)) <;> go_size)⟩
def layTakes (i : Nat) (s : ByteArray) (xs : List Bool) : Bool := if i = 0 then takesNum s xs else if i = 1 then takesText s xs else takesAgg s xs
theorem made1 (pb pn i : Nat) (s : ByteArray) (A : Option Addr) (n c : Nat) (xs : List Bool) (w : World) (B : Nat) (h1 : w.cell? ⟨pb, 1, none⟩ = some (.func (.func (layFn i 1)) #[] #[])) (h2 : w.cell? ⟨pn, 0, none⟩ = some (.string s))
    (hr : Reads w B 1 A n (xs.map Value.bool)) (hm : n ≤ 9223372036854775807) :
    Calls Tryz.prog 142 #[.slice A n c, .pointer (some ⟨pb, 0, none⟩), .pointer (some ⟨pn, 0, none⟩)] w fun e w' => e = .returned (.bool (layTakes i s xs)) ∧ Below w.heap.size w w' := by
  by_cases i0 : i = 0
  · subst i0
    replace h1 : w.cell? ⟨pb, 1, none⟩ = some (.func (.func 30) #[] #[]) := h1
    go_enter Tryz.func142, Tryz.ntmps142
    go_wp2_with fail
    refine (nums_Takes s A n c xs _ B hr hm).mono ?_
    rintro e w1 ⟨rfl, hb⟩
    go_wp2
    go_ret
    exact ⟨rfl, hb⟩
  · by_cases i1 : i = 1
    · subst i1
      replace h1 : w.cell? ⟨pb, 1, none⟩ = some (.func (.func 34) #[] #[]) := h1
      go_enter Tryz.func142, Tryz.ntmps142
      go_wp2_with fail
      refine (texts_Takes s A n c xs _ B hr hm).mono ?_
      rintro e w1 ⟨rfl, hb⟩
      go_wp2
      go_ret
      exact ⟨rfl, hb⟩
    · have e : layTakes i s xs = takesAgg s xs := by simp [layTakes, i0, i1]
      rw [e]
      have e2 : layFn i 1 = 39 := by simp [layFn, i0, i1]
      rw [e2] at h1
      clear e e2 i0 i1
      go_enter Tryz.func142, Tryz.ntmps142
      go_wp2_with fail
      refine (aggs_Takes s A n c xs _ B hr hm).mono ?_
      rintro e w1 ⟨rfl, hb⟩
      go_wp2
      go_ret
      exact ⟨rfl, hb⟩
def takesAll (s : ByteArray) (xs : List Bool) : Bool := match ownTab s with
  | some (x, y, _) => between x y xs.length && !hasTrue xs
  | none => match layOf s with
    | some i => layTakes i s xs
    | none => false
theorem ite_key {α : Type} {p : Prop} [Decidable p] {a r : α} {b : Option α} (h : (if p then some a else b) = some r) : p ∨ b = some r := by
  by_cases hp : p
  · exact .inl hp
  · rw [if_neg hp] at h; exact .inr h
theorem own_lay (s : ByteArray) {q : Int × Int × Doer} (h : ownTab s = some q) : layOf s = none := by
  unfold ownTab at h
  iterate 16
    rcases ite_key h with e | h
    · subst e
      decide +kernel
  cases h
theorem lay_known (s : ByteArray) {i : Nat} (h : layOf s = some i) : inFirst 50 s = true := by
  unfold layOf at h
  split at h
  · rename_i hn
    obtain ⟨q, hn⟩ := Option.isSome_iff_exists.1 hn
    unfold numTab at hn
    iterate 16
      rcases ite_key hn with e | hn
      · subst e
        decide +kernel
    cases hn
  · split at h
    · rename_i hn
      obtain ⟨q, hn⟩ := Option.isSome_iff_exists.1 hn
      unfold textTab at hn
      iterate 16
        rcases ite_key hn with e | hn
        · subst e
          decide +kernel
      cases hn
    · split at h
      · rename_i hn
        obtain ⟨q, hn⟩ := Option.isSome_iff_exists.1 hn
        unfold aggTab at hn
        iterate 18
          rcases ite_key hn with e | hn
          · subst e
            decide +kernel
        cases hn
      · cases h
theorem own_known (s : ByteArray) {q : Int × Int × Doer} (h : ownTab s = some q) : isOwn s = true := by
  unfold ownTab at h
  iterate 16
    rcases ite_key h with e | h
    · subst e
      decide +kernel
  cases h
theorem takes_none {s : ByteArray} (h : D1 50 s = false) (xs : List Bool) : takesAll s xs = false := by
  unfold D1 at h
  simp only [Bool.or_eq_false_iff] at h
  unfold takesAll
  cases ho : ownTab s with
  | some q => rw [own_known s ho] at h; cases h.1
  | none =>
    cases hl : layOf s with
    | some i => rw [lay_known s hl] at h; cases h.2
    | none => rfl
theorem ent_takes {s : ByteArray} {fn fn1 : Fn} {first cap first1 cap1 : Array Value} {w : World} (h : EntE w s (.agg #[.func fn first cap, .func fn1 first1 cap1])) (A : Option Addr) (n c : Nat) (xs : List Bool) (B : Nat)
    (hr : Reads w B 1 A n (xs.map Value.bool)) (hm : n ≤ 9223372036854775807) : ∃ k pa pb, (k = 248 ∨ k = 142) ∧ fn = .func k ∧ first = #[] ∧ cap = #[.pointer (some ⟨pa, 0, none⟩), .pointer (some ⟨pb, 0, none⟩)] ∧
      ∀ w', Below w.heap.size w w' → Calls Tryz.prog k #[.slice A n c, .pointer (some ⟨pa, 0, none⟩), .pointer (some ⟨pb, 0, none⟩)] w' fun e w'' => e = .returned (.bool (takesAll s xs)) ∧ Below w'.heap.size w' w'' := by
  have hlen : xs.length = n := by have := hr.1; simpa using this
  rcases h with ⟨x, y, d, e1, pl, pm, pd, f, ev, h1, h2, _⟩ | ⟨i, e1, pb, pn, ev, h0, h1, h2, h3⟩
  · injection ev with ev
    cases ev
    refine ⟨_, _, _, .inl rfl, rfl, rfl, rfl, fun w' hb => ?_⟩
    have e : takesAll s xs = (between x y n && !hasTrue xs) := by simp [takesAll, e1, hlen]
    rw [e]
    exact singles1 pl pm x y A n c xs w' B ((keeps_below hb).cell _ _ _ h1) ((keeps_below hb).cell _ _ _ h2) (hr.keeps (keeps_below hb)) hm
  · injection ev with ev
    cases ev
    refine ⟨_, _, _, .inr rfl, rfl, rfl, rfl, fun w' hb => ?_⟩
    have ho : ownTab s = none := by
      cases ho : ownTab s with
      | none => rfl
      | some q => rw [own_lay s ho] at e1; cases e1
    have e : takesAll s xs = layTakes i s xs := by simp [takesAll, ho, e1]
    rw [e]
    exact made1 pb pn i s A n c xs w' B ((keeps_below hb).cell _ _ _ h1) ((keeps_below hb).cell _ _ _ h3) (hr.keeps (keeps_below hb)) hm
end Go.Proofs.YtegbhdeaicgpkaaGreatDoor
namespace Go.Proofs.YtegbhdeaicgpkaaGreatDoor
open Go Go.RowKit
def Apart (b : Nat) (A : Option Addr) (n : Nat) : Prop := 0 < n → ∀ p, A = some p → p.block ≠ b
theorem Reads.turn {w w' : World} {b B size n : Nat} {A : Option Addr} {xs : List Value} (h : Reads w B size A n xs) (ha : Apart b A n) (ht : Turn b w w') : Reads w' B size A n xs :=
  ⟨h.1, fun hn => by
    obtain ⟨k, off, e, hb, hc⟩ := h.2 hn
    exact ⟨k, off, e, hb, fun j u hu => ht.cell (ha hn _ e) (hc j u hu)⟩⟩
theorem table_New (w : World) : Calls Tryz.prog 6 #[] w fun e w' => e = .returned (.pointer (some ⟨w.heap.size, 0, none⟩)) ∧ Fresh w' w.heap.size ∧ Below w.heap.size w w' := by
  go_enter Tryz.func6, Tryz.ntmps6
  go_wp2
  go_ret
  refine ⟨rfl, ⟨?_, ?_, ?_, fun i => ?_⟩, (by (with_reducible repeat' (first | exact .refl _ _ | assumption | refine bmP ?_ ?_ | refine baP ?_ _ ?_ | refine .drew ?_ | refine .setCell ?_ ?_ _ | refine bdP ?_ _)) <;> go_size)⟩
  all_goals go_simp
end Go.Proofs.YtegbhdeaicgpkaaGreatDoor
