/-
  Parts of a proof: FactsFuncsFaults.
-/
import Derived.Test.YtegbhdeaicgpkaaGreatDoorRows
import Derived.JoinedOf
import Derived.KernelRfl
set_option linter.all false
namespace Go.Proofs.YtegbhdeaicgpkaaGreatDoor.factsFuncsFaults
open Go
set_option maxRecDepth 100000
theorem t0 : (Rows.funcsFaultsUptoRow.wf (OpenSpec.ofChange Rows.funcsFaultsSpec)) = true := by kernel_rfl
theorem t1 : (laidOutB Tryz.prog) = true := by kernel_rfl
theorem t2 : (mapsRowed Tryz.prog) = true := by kernel_rfl
theorem t3 : (Tryz.f4.params.all (Tryz.prog.readableRec ·)) = true := by kernel_rfl
theorem t4 : (namedTie Tryz.prog Rows.funcsFaultsUptoRow.named Rows.funcsFaultsSpec.vars) = true := by kernel_rfl
theorem t5 : ((Rows.funcsFaultsUptoRow.stops == [])) = true := by kernel_rfl
theorem t6 : ((Tryz.prog.stops == [])) = true := by kernel_rfl
theorem t7 : ((Rows.funcsFaultsUptoRow.knobs == [])) = true := by kernel_rfl
theorem t8 : ((Tryz.prog.stopKnobs == [])) = true := by kernel_rfl
theorem t9 : ((Rows.funcsFaultsUptoRow.inPlace == Tryz.prog.inPlace 4)) = true := by kernel_rfl
theorem t10 : ((Rows.funcsFaultsUptoRow.unfollowed == Tryz.prog.unfollowed 4)) = true := by kernel_rfl
theorem t11 : ((Rows.funcsFaultsUptoRow.recurses == Tryz.prog.recurses 4)) = true := by kernel_rfl
theorem t12 : ((Rows.funcsFaultsUptoRow.named == Tryz.prog.varsNamed 4)) = true := by kernel_rfl
theorem t13 : ((Rows.funcsFaultsUptoRow.maps == (Tryz.f4.params.toList ++ Rows.funcsFaultsSpec.plain.varTypes Tryz.prog).any (Tryz.prog.mapsRec ·))) = true := by kernel_rfl
theorem t14 : ((Rows.funcsFaultsUptoRow.ifaces == (Tryz.f4.params.toList ++ Rows.funcsFaultsSpec.plain.varTypes Tryz.prog).any (Tryz.prog.ifacesRec ·))) = true := by kernel_rfl
theorem t15 : ((Rows.funcsFaultsUptoRow.mapsOut == Tryz.prog.mapsAmong Tryz.f4.resultTypes.toList)) = true := by kernel_rfl
theorem t16 : ((Rows.funcsFaultsUptoRow.loops == (Tryz.f4.params.toList ++ Rows.funcsFaultsSpec.plain.varTypes Tryz.prog).any (Tryz.prog.loopsFrom ·))) = true := by kernel_rfl
theorem t17 : ((Rows.funcsFaultsUptoRow.wideKeys == (Tryz.f4.params.toList ++ Rows.funcsFaultsSpec.plain.varTypes Tryz.prog ++ Tryz.f4.resultTypes.toList).any (Tryz.prog.wideKeysFrom ·))) = true := by kernel_rfl
theorem t18 : (Rows.funcsFaultsSpec.vars.all (Tryz.prog.varReadable ·)) = true := by kernel_rfl
theorem t19 : (Tryz.f4.resultTypes.all (fun t => Tryz.prog.readableRec t && decide (t < Tryz.prog.types.size))) = true := by kernel_rfl
theorem t20 : ((Rows.funcsFaultsUptoRow.ifacesOut == Tryz.f4.resultTypes.toList.any (Tryz.prog.ifacesRec ·))) = true := by kernel_rfl
theorem t21 : ((Rows.funcsFaultsUptoRow.loopsOut == Tryz.f4.resultTypes.toList.any (Tryz.prog.loopsFrom ·))) = true := by kernel_rfl
theorem t22 : ((Rows.funcsFaultsUptoRow.plainKeys == Tryz.prog.plainKeys)) = true := by kernel_rfl
theorem t23 : (Rows.funcsFaultsUptoRow.shortTexts.isNone) = true := by kernel_rfl
theorem t24 : (Tryz.prog.stopsHeard) = true := by kernel_rfl
theorem t25 : (Tryz.prog.mayEnter) = true := by kernel_rfl
theorem t26 : ((Rows.funcsFaultsUptoRow.lifted == Tryz.prog.liftsFinal)) = true := by kernel_rfl
theorem t27 : ((Tryz.prog.make == some Rows.funcsFaultsUptoRow.make)) = true := by kernel_rfl
theorem t28 : ((Rows.funcsFaultsUptoRow.kinds == (if Rows.funcsFaultsUptoRow.domain.isEmpty then [] else Tryz.f4.params.toList.map fun t => match Tryz.prog.underlying t with | some (.int k) => some k | _ => none))) = true := by kernel_rfl
theorem t29 : ((Rows.funcsFaultsUptoRow.pinned == Rows.funcsFaultsUptoRow.pinnedBy)) = true := by kernel_rfl
theorem t30 : ((Rows.funcsFaultsUptoRow.veiled == (Tryz.f4.params.toList ++ Rows.funcsFaultsSpec.plain.varTypes Tryz.prog ++ Tryz.f4.resultTypes.toList).any (Tryz.prog.veiledRec ·))) = true := by kernel_rfl
theorem t31 : (Rows.funcsFaultsUptoRow.veiledFits Tryz.prog Tryz.f4.params.toList (Tryz.f4.params.toList ++ Rows.funcsFaultsSpec.plain.varTypes Tryz.prog ++ Tryz.f4.resultTypes.toList)) = true := by kernel_rfl
theorem and_mk {a b : Bool} (ha : a = true) (hb : b = true) : (a && b) = true := by rw [ha, hb]; rfl
theorem closed : joinedFacts Tryz.prog 4 Tryz.f4 Rows.funcsFaultsSpec Rows.funcsFaultsUptoRow = true := (and_mk (and_mk (and_mk (and_mk (and_mk (and_mk (and_mk (and_mk (and_mk (and_mk (and_mk (and_mk (and_mk (and_mk (and_mk (and_mk (and_mk (and_mk (and_mk (and_mk (and_mk (and_mk (and_mk (and_mk (and_mk (and_mk (and_mk (and_mk (and_mk (and_mk (and_mk t0 t1) t2) t3) t4) t5) t6) t7) t8) t9) t10) t11) t12) t13) t14) t15) t16) t17) t18) t19) t20) t21) t22) t23) t24) t25) t26) t27) t28) t29) t30) t31)
end Go.Proofs.YtegbhdeaicgpkaaGreatDoor.factsFuncsFaults
