/-
  The table's all: the index, made by the first asker, found by the later ones.
-/
import Derived.Test.YtpcihefhagipmaaGreatDoorOnce
import Derived.Test.YtpcihefhagipmaaGreatDoorTurn
namespace Go.Proofs.YtpcihefhagipmaaGreatDoor
open Go Go.RowKit

/-- The closure that makes the index. -/
def Laid (w : World) (b : Nat) (e : Ending) (w' : World) : Prop := e = .returned (.tuple #[]) ∧ (∃ m, w'.cell? ⟨b, 3, none⟩ = some (.map (some m)) ∧ MapInv w' m) ∧ Turn b w w' ∧ (∀ i, i ≠ 3 → w'.cell? ⟨b, i, none⟩ = w.cell? ⟨b, i, none⟩) ∧ ∀ i, w'.frozen? ⟨b, i, none⟩ = w.frozen? ⟨b, i, none⟩

theorem laid_of {w w1 : World} {b m : Nat} {x : Value} (hc : w.cell? ⟨b, 3, none⟩ = some x) (hx : tame x = false) (hM : MadeInv w m (D1 50) w1) : Laid w b (.returned (.tuple #[])) (w1.setCell ⟨b, 3, none⟩ (.map (some m))) := by
  have hb := hM.since
  have hlt := cell_lt hc
  have hc1 : w1.cell? ⟨b, 3, none⟩ = some x := (World.cell?_of_block (a := ⟨b, 3, none⟩) (hb.block b hlt)).trans hc
  refine ⟨rfl, ⟨m, World.cell?_setCell_same _ _ _ hc1, hM.map.setCell hc1 hx⟩, (Turn.of_below hb).setCell _ _, fun i hi => ?_, fun i => ?_⟩
  · exact (World.cell?_setCell_other _ _ _ _ (by simp [Ne.symm hi])).trans (World.cell?_of_block (a := ⟨b, i, none⟩) (hb.block b hlt))
  · rw [World.frozen?_setCell]
    exact World.frozen?_of_block (a := ⟨b, i, none⟩) (hb.block b hlt)

set_option maxRecDepth 100000 in
theorem all_made (b pl : Nat) (x3 : Value) (hx : tame x3 = false) (w : World) (hp : w.cell? ⟨pl, 0, none⟩ = some (.pointer (some ⟨b, 0, none⟩))) (h3 : w.cell? ⟨b, 3, none⟩ = some x3) (f3 : w.frozen? ⟨b, 3, none⟩ = false) :
    Calls Tryz.prog 33 #[.pointer (some ⟨pl, 0, none⟩)] w fun e w' => Laid w b e w' := by
  have hlb := cell_lt h3
  have hlp := cell_lt hp
  go_enter Tryz.func33, Tryz.ntmps33
  go_wp2
  go_region_with (first | (go_at_call 34; refine (funcs_made _).mono ?_; rintro e w1 ⟨m, rfl, hM⟩; obtain ⟨l, n, rfl⟩ := more_of_below hM.since))
  all_goals
    go_end0
    have e : more (w.setCell ⟨b, 3, none⟩ (.map (some m))) l n = (more w.drew l n).setCell ⟨b, 3, none⟩ (.map (some m)) := (more_setCell (w := w.drew) hlb).symm
    rw [e]
    exact laid_of (w := w.drew) h3 hx hM

theorem o_load (a : Addr) (d : Int) (w : World) (h0 : w.cell? a = some (.int .u32 d)) : Calls Tryz.prog 46 #[.pointer (some a)] w fun e w' => e = .returned (.bool (d != 0)) ∧ w' = w := by
  have hl := run_call_load (P := Tryz.prog) Tryz.func69 (by kernel_rfl) (by kernel_rfl) (by kernel_rfl) .u32 (by kernel_rfl) h0
  go_enter Tryz.func46, Tryz.ntmps46
  go_wp2
  go_ret
  exact ⟨rfl, rfl⟩

/-- The table whose index is made. -/
def Ready (w : World) (b : Nat) : Prop := ∃ d m, ¬ d = 0 ∧ w.cell? ⟨b, 0, none⟩ = some (.int .u32 d) ∧ w.cell? ⟨b, 3, none⟩ = some (.map (some m)) ∧ MapInv w m

set_option maxRecDepth 100000 in
set_option maxHeartbeats 1600000 in
theorem once_slow (b pl : Nat) (hpb : pl ≠ b) (x3 : Value) (hx : tame x3 = false) (w : World) (hp : w.cell? ⟨pl, 0, none⟩ = some (.pointer (some ⟨b, 0, none⟩)))
    (h0 : w.cell? ⟨b, 0, none⟩ = some (.int .u32 0)) (h1 : w.cell? ⟨b, 1, none⟩ = some (.int .i32 0)) (h3 : w.cell? ⟨b, 3, none⟩ = some x3)
    (f : ∀ i, w.frozen? ⟨b, i, none⟩ = false) :
    Calls Tryz.prog 47 #[.pointer (some ⟨b, 0, none⟩), .func (.func 33) #[] #[.pointer (some ⟨pl, 0, none⟩)]] w fun e w' => e = .returned (.tuple #[]) ∧ Ready w' b ∧ Turn b w w' := by
  have f0 := f 0
  have f1 := f 1
  have f3 := f 3
  have hp1 : (w.setCell ⟨b, 1, none⟩ (.int .i32 1)).cell? ⟨pl, 0, none⟩ = some (.pointer (some ⟨b, 0, none⟩)) := (World.cell?_setCell_other _ ⟨b, 1, none⟩ ⟨pl, 0, none⟩ _ (by simp [hpb])).trans hp
  have h31 : (w.setCell ⟨b, 1, none⟩ (.int .i32 1)).cell? ⟨b, 3, none⟩ = some x3 := (World.cell?_setCell_other _ ⟨b, 1, none⟩ ⟨b, 3, none⟩ _ (by simp)).trans h3
  have h01 : (w.setCell ⟨b, 1, none⟩ (.int .i32 1)).cell? ⟨b, 0, none⟩ = some (.int .u32 0) := (World.cell?_setCell_other _ ⟨b, 1, none⟩ ⟨b, 0, none⟩ _ (by simp)).trans h0
  have h11 : (w.setCell ⟨b, 1, none⟩ (.int .i32 1)).cell? ⟨b, 1, none⟩ = some (.int .i32 1) := World.cell?_setCell_same w _ _ h1
  have fz : ∀ i, (w.setCell ⟨b, 1, none⟩ (.int .i32 1)).frozen? ⟨b, i, none⟩ = false := fun i => (World.frozen?_setCell _ _ _ _).trans (f i)
  have hT0 : Turn b w (w.setCell ⟨b, 1, none⟩ (.int .i32 1)) := (Turn.refl b w).setCell 1 _
  have hnot : ∀ (x : Bool) (w : World), (Op.unary .not (.bool x)).run Tryz.prog w = .ok (.bool (!x)) w := fun _ _ => rfl
  go_enter_defers Tryz.func47, Tryz.ntmps47
  go_wp2_with (first | (go_at_call 70; refine (o_lock ⟨b, 1, none⟩ _ (by go_simp) (by go_simp)).mono ?_; rintro e w' ⟨rfl, rfl⟩) | (go_at_call 46; refine (o_load _ 0 _ h01).mono ?_; rintro e w' ⟨rfl, rfl⟩) | (go_at_call 33; refine (all_made b pl x3 hx _ hp1 h31 (fz 3)).mono ?_; rintro e w1 ⟨rfl, ⟨m, hm3, hM⟩, hT, hc, hz⟩))
  have h0' : w1.cell? ⟨b, 0, none⟩ = some (.int .u32 0) := (hc 0 (by simp)).trans h01
  have h1' : w1.cell? ⟨b, 1, none⟩ = some (.int .i32 1) := (hc 1 (by simp)).trans h11
  have fz' : ∀ i, w1.frozen? ⟨b, i, none⟩ = false := fun i => (hz i).trans (fz i)
  have hT1 := hT0.trans hT
  clear hc hz hT hT0 fz f f0 f1 f3 h01 h11 h31 hp1 h0 h1 h3 hp hnot
  refine leaves_cons (f := 72) (args := #[.pointer (some ⟨b, 0, none⟩), .bool true]) (by simp) (by simp [go_sem]) ?_
  refine (o_store ⟨b, 0, none⟩ (.int .u32 0) .returning _ h0' (fz' 0)).mono ?_
  rintro e u' w'' ⟨rfl, rfl, rfl⟩
  refine leaves_cons (f := 71) (args := #[.pointer (some ⟨b, 1, none⟩)]) (by simp [settle]) (by simp [go_sem]) ?_
  have h1d : (w1.drew.setCell ⟨b, 0, none⟩ (.int .u32 1)).cell? ⟨b, 1, none⟩ = some (.int .i32 1) := (World.cell?_setCell_other _ ⟨b, 0, none⟩ ⟨b, 1, none⟩ _ (by simp)).trans h1'
  have f1d : (w1.drew.setCell ⟨b, 0, none⟩ (.int .u32 1)).frozen? ⟨b, 1, none⟩ = false := (World.frozen?_setCell _ _ _ _).trans (fz' 1)
  refine (o_unlock ⟨b, 1, none⟩ _ _ h1d f1d).mono ?_
  rintro e u' w'' ⟨rfl, rfl, rfl⟩
  have h0d : w1.drew.cell? ⟨b, 0, none⟩ = some (.int .u32 0) := h0'
  have hR : Ready ((w1.drew.setCell ⟨b, 0, none⟩ (.int .u32 1)).setCell ⟨b, 1, none⟩ (.int .i32 0)) b :=
    ⟨1, m, by simp, (World.cell?_setCell_other _ ⟨b, 1, none⟩ ⟨b, 0, none⟩ _ (by simp)).trans (World.cell?_setCell_same _ _ _ h0d),
      (World.cell?_setCell_other _ ⟨b, 1, none⟩ ⟨b, 3, none⟩ _ (by simp)).trans ((World.cell?_setCell_other _ ⟨b, 0, none⟩ ⟨b, 3, none⟩ _ (by simp)).trans hm3),
      (hM.drew.setCell h0d rfl).setCell h1d rfl⟩
  simp [Leaves, settle, results, Tryz.results47]
  exact ⟨hR, (hT1.drew.setCell 0 _).setCell 1 _⟩

set_option maxRecDepth 100000 in
/-- The first asking. -/
theorem once_first (b pl : Nat) (hpb : pl ≠ b) (x3 : Value) (hx : tame x3 = false) (w : World) (hp : w.cell? ⟨pl, 0, none⟩ = some (.pointer (some ⟨b, 0, none⟩)))
    (h0 : w.cell? ⟨b, 0, none⟩ = some (.int .u32 0)) (h1 : w.cell? ⟨b, 1, none⟩ = some (.int .i32 0)) (h3 : w.cell? ⟨b, 3, none⟩ = some x3)
    (f : ∀ i, w.frozen? ⟨b, i, none⟩ = false) :
    Calls Tryz.prog 32 #[.pointer (some ⟨b, 0, none⟩), .func (.func 33) #[] #[.pointer (some ⟨pl, 0, none⟩)]] w fun e w' => e = .returned (.tuple #[]) ∧ Ready w' b ∧ Turn b w w' := by
  have hnot : ∀ (x : Bool) (w : World), (Op.unary .not (.bool x)).run Tryz.prog w = .ok (.bool (!x)) w := fun _ _ => rfl
  go_enter Tryz.func32, Tryz.ntmps32
  go_wp2_with (first | (go_at_call 46; refine (o_load _ 0 _ h0).mono ?_; rintro e w' ⟨rfl, rfl⟩) | (go_at_call 47; refine (once_slow b pl hpb x3 hx _ hp h0 h1 h3 f).mono ?_; rintro e w1 ⟨rfl, hR, hT⟩))
  go_end0
  exact ⟨rfl, hR, hT⟩

/-- A later asking. -/
theorem once_done (a : Addr) (d : Int) (hd : ¬ d = 0) (fv : Value) (w : World) (h0 : w.cell? a = some (.int .u32 d)) :
    Calls Tryz.prog 32 #[.pointer (some a), fv] w fun e w' => e = .returned (.tuple #[]) ∧ w' = w := by
  have hnot : ∀ (x : Bool) (w : World), (Op.unary .not (.bool x)).run Tryz.prog w = .ok (.bool (!x)) w := fun _ _ => rfl
  have hd' : (d != 0) = true := by simp [hd]
  go_enter Tryz.func32, Tryz.ntmps32
  go_wp2_with (first | (go_at_call 46; refine (o_load _ d _ h0).mono ?_; rintro e w' ⟨rfl, rfl⟩))
  go_end0
  exact ⟨rfl, rfl⟩
end Go.Proofs.YtpcihefhagipmaaGreatDoor
