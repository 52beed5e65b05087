/-
  Parts of a proof: FaultsT.
-/
import Derived.Test.YtegbhdeaicgpkaaGreatDoorJ53
import Derived.Test.YtegbhdeaicgpkaaGreatDoorJ55
set_option linter.all false
namespace Go.Proofs.YtegbhdeaicgpkaaGreatDoor
open Go Go.RowKit
theorem funcsFaults {w : World} {pl : List (Arg × List En)} {A : Option Addr} {n c : Nat} (h : LawIn w pl A n c) (s : ByteArray) (tx : Int) :
    Calls Tryz.prog 4 #[.string s, .slice A n c, .int .i64 tx] w fun e w' => e = .returned (.bool true) ∧ Below w.heap.size w w' := by
  have hg := good_tab h s tx
  refine faults_walk h s tx (tabX s pl tx) ((List.range (pl.map Prod.fst).length).all (okJ pl)) (fun W b hR hb => (h.below hb).table b hR s tx) (fun W hb => ?_) hg.1 hg.2.2.to64.1 (fun hok => tabX_no hok s tx) (fun _ hC => hg.2.1 hC)
  have hW := h.below hb
  refine ref08_Args (pl.map Prod.fst) A n c _ W hW.hr (by have := h.hm; omega) (okJ pl) (fun j a ha W2 hb2 => ?_)
  obtain ⟨p, hj, rfl⟩ := map_at ha
  have hm := List.mem_of_getElem? hj
  rw [okJ_at hj]
  exact ref08_may p.1 p.2 W2 ((hW.hE p hm).below hb2) (h.h64 p hm).1.1 (fun e he => ((h.h64 p hm).2 e he).1) (by have := h.hn9 p hm; omega)
end Go.Proofs.YtegbhdeaicgpkaaGreatDoor
