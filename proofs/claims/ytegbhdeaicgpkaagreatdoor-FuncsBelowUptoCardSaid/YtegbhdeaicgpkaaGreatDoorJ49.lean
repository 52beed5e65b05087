/-
  Parts of a proof: FactsFuncsBelow.
-/
import Derived.Test.YtegbhdeaicgpkaaGreatDoorRows
import Derived.JoinedOf
import Derived.KernelRfl
set_option linter.all false
namespace Go.Proofs.YtegbhdeaicgpkaaGreatDoor.factsFuncsBelow
open Go
set_option maxRecDepth 100000
theorem t0 : (Rows.funcsBelowUptoRow.wf (OpenSpec.ofChange Rows.funcsBelowSpec)) = true := by kernel_rfl
theorem t1 : (laidOutB Tryz.prog) = true := by kernel_rfl
theorem t2 : (mapsRowed Tryz.prog) = true := by kernel_rfl
theorem t3 : (Tryz.f3.params.all (Tryz.prog.readableRec ·)) = true := by kernel_rfl
theorem t4 : (namedTie Tryz.prog Rows.funcsBelowUptoRow.named Rows.funcsBelowSpec.vars) = true := by kernel_rfl
theorem t5 : ((Rows.funcsBelowUptoRow.stops == [])) = true := by kernel_rfl
theorem t6 : ((Tryz.prog.stops == [])) = true := by kernel_rfl
theorem t7 : ((Rows.funcsBelowUptoRow.knobs == [])) = true := by kernel_rfl
theorem t8 : ((Tryz.prog.stopKnobs == [])) = true := by kernel_rfl
theorem t9 : ((Rows.funcsBelowUptoRow.inPlace == Tryz.prog.inPlace 3)) = true := by kernel_rfl
theorem t10 : ((Rows.funcsBelowUptoRow.unfollowed == Tryz.prog.unfollowed 3)) = true := by kernel_rfl
theorem t11 : ((Rows.funcsBelowUptoRow.recurses == Tryz.prog.recurses 3)) = true := by kernel_rfl
theorem t12 : ((Rows.funcsBelowUptoRow.named == Tryz.prog.varsNamed 3)) = true := by kernel_rfl
theorem t13 : ((Rows.funcsBelowUptoRow.maps == (Tryz.f3.params.toList ++ Rows.funcsBelowSpec.plain.varTypes Tryz.prog).any (Tryz.prog.mapsRec ·))) = true := by kernel_rfl
theorem t14 : ((Rows.funcsBelowUptoRow.ifaces == (Tryz.f3.params.toList ++ Rows.funcsBelowSpec.plain.varTypes Tryz.prog).any (Tryz.prog.ifacesRec ·))) = true := by kernel_rfl
theorem t15 : ((Rows.funcsBelowUptoRow.mapsOut == Tryz.prog.mapsAmong Tryz.f3.resultTypes.toList)) = true := by kernel_rfl
theorem t16 : ((Rows.funcsBelowUptoRow.loops == (Tryz.f3.params.toList ++ Rows.funcsBelowSpec.plain.varTypes Tryz.prog).any (Tryz.prog.loopsFrom ·))) = true := by kernel_rfl
theorem t17 : ((Rows.funcsBelowUptoRow.wideKeys == (Tryz.f3.params.toList ++ Rows.funcsBelowSpec.plain.varTypes Tryz.prog ++ Tryz.f3.resultTypes.toList).any (Tryz.prog.wideKeysFrom ·))) = true := by kernel_rfl
theorem t18 : (Rows.funcsBelowSpec.vars.all (Tryz.prog.varReadable ·)) = true := by kernel_rfl
theorem t19 : (Tryz.f3.resultTypes.all (fun t => Tryz.prog.readableRec t && decide (t < Tryz.prog.types.size))) = true := by kernel_rfl
theorem t20 : ((Rows.funcsBelowUptoRow.ifacesOut == Tryz.f3.resultTypes.toList.any (Tryz.prog.ifacesRec ·))) = true := by kernel_rfl
theorem t21 : ((Rows.funcsBelowUptoRow.loopsOut == Tryz.f3.resultTypes.toList.any (Tryz.prog.loopsFrom ·))) = true := by kernel_rfl
theorem t22 : ((Rows.funcsBelowUptoRow.plainKeys == Tryz.prog.plainKeys)) = true := by kernel_rfl
theorem t23 : (Rows.funcsBelowUptoRow.shortTexts.isNone) = true := by kernel_rfl
theorem t24 : (Tryz.prog.stopsHeard) = true := by kernel_rfl
theorem t25 : (Tryz.prog.mayEnter) = true := by kernel_rfl
theorem t26 : ((Rows.funcsBelowUptoRow.lifted == Tryz.prog.liftsFinal)) = true := by kernel_rfl
theorem t27 : ((Tryz.prog.make == some Rows.funcsBelowUptoRow.make)) = true := by kernel_rfl
theorem t28 : ((Rows.funcsBelowUptoRow.kinds == (if Rows.funcsBelowUptoRow.domain.isEmpty then [] else Tryz.f3.params.toList.map fun t => match Tryz.prog.underlying t with | some (.int k) => some k | _ => none))) = true := by kernel_rfl
theorem t29 : ((Rows.funcsBelowUptoRow.pinned == Rows.funcsBelowUptoRow.pinnedBy)) = true := by kernel_rfl
theorem t30 : ((Rows.funcsBelowUptoRow.veiled == (Tryz.f3.params.toList ++ Rows.funcsBelowSpec.plain.varTypes Tryz.prog ++ Tryz.f3.resultTypes.toList).any (Tryz.prog.veiledRec ·))) = true := by kernel_rfl
theorem t31 : (Rows.funcsBelowUptoRow.veiledFits Tryz.prog Tryz.f3.params.toList (Tryz.f3.params.toList ++ Rows.funcsBelowSpec.plain.varTypes Tryz.prog ++ Tryz.f3.resultTypes.toList)) = true := by kernel_rfl
theorem and_mk {a b : Bool} (ha : a = true) (hb : b = true) : (a && b) = true := by rw [ha, hb]; rfl
theorem closed : joinedFacts Tryz.prog 3 Tryz.f3 Rows.funcsBelowSpec Rows.funcsBelowUptoRow = true := (and_mk (and_mk (and_mk (and_mk (and_mk (and_mk (and_mk (and_mk (and_mk (and_mk (and_mk (and_mk (and_mk (and_mk (and_mk (and_mk (and_mk (and_mk (and_mk (and_mk (and_mk (and_mk (and_mk (and_mk (and_mk (and_mk (and_mk (and_mk (and_mk (and_mk (and_mk t0 t1) t2) t3) t4) t5) t6) t7) t8) t9) t10) t11) t12) t13) t14) t15) t16) t17) t18) t19) t20) t21) t22) t23) t24) t25) t26) t27) t28) t29) t30) t31)
end Go.Proofs.YtegbhdeaicgpkaaGreatDoor.factsFuncsBelow
