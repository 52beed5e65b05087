/-
  The closed facts of the row EvalParts, one theorem each.
-/
import Derived.Test.YtegbhdeaicgpkaaGreatDoorRows
import Derived.JoinedOf
import Derived.KernelRfl
namespace Go.Proofs.YtegbhdeaicgpkaaGreatDoor.factsEvalParts
open Go
set_option maxRecDepth 100000

theorem t0 : (Rows.evalPartsRow.wf (OpenSpec.ofChange Rows.evalPartsSpec)) = true := by kernel_rfl
theorem t1 : (laidOutB Tryz.prog) = true := by kernel_rfl
theorem t2 : (mapsRowed Tryz.prog) = true := by kernel_rfl
theorem t3 : (Tryz.f5.params.all (Tryz.prog.readableRec ·)) = true := by kernel_rfl
theorem t4 : (namedTie Tryz.prog Rows.evalPartsRow.named Rows.evalPartsSpec.vars) = true := by kernel_rfl
theorem t5 : ((Rows.evalPartsRow.stops == [])) = true := by kernel_rfl
theorem t6 : ((Tryz.prog.stops == [])) = true := by kernel_rfl
theorem t7 : ((Rows.evalPartsRow.knobs == [])) = true := by kernel_rfl
theorem t8 : ((Tryz.prog.stopKnobs == [])) = true := by kernel_rfl
theorem t9 : ((Rows.evalPartsRow.inPlace == Tryz.prog.inPlace 5)) = true := by kernel_rfl
theorem t10 : ((Rows.evalPartsRow.unfollowed == Tryz.prog.unfollowed 5)) = true := by kernel_rfl
theorem t11 : ((Rows.evalPartsRow.recurses == Tryz.prog.recurses 5)) = true := by kernel_rfl
theorem t12 : ((Rows.evalPartsRow.named == Tryz.prog.varsNamed 5)) = true := by kernel_rfl
theorem t13 : ((Rows.evalPartsRow.maps == (Tryz.f5.params.toList ++ Rows.evalPartsSpec.plain.varTypes Tryz.prog).any (Tryz.prog.mapsRec ·))) = true := by kernel_rfl
theorem t14 : ((Rows.evalPartsRow.ifaces == (Tryz.f5.params.toList ++ Rows.evalPartsSpec.plain.varTypes Tryz.prog).any (Tryz.prog.ifacesRec ·))) = true := by kernel_rfl
theorem t15 : ((Rows.evalPartsRow.mapsOut == Tryz.prog.mapsAmong Tryz.f5.resultTypes.toList)) = true := by kernel_rfl
theorem t16 : ((Rows.evalPartsRow.loops == (Tryz.f5.params.toList ++ Rows.evalPartsSpec.plain.varTypes Tryz.prog).any (Tryz.prog.loopsFrom ·))) = true := by kernel_rfl
theorem t17 : ((Rows.evalPartsRow.wideKeys == (Tryz.f5.params.toList ++ Rows.evalPartsSpec.plain.varTypes Tryz.prog ++ Tryz.f5.resultTypes.toList).any (Tryz.prog.wideKeysFrom ·))) = true := by kernel_rfl
theorem t18 : (Rows.evalPartsSpec.vars.all (Tryz.prog.varReadable ·)) = true := by kernel_rfl
theorem t19 : (Tryz.f5.resultTypes.all (fun t => Tryz.prog.readableRec t && decide (t < Tryz.prog.types.size))) = true := by kernel_rfl
theorem t20 : ((Rows.evalPartsRow.ifacesOut == Tryz.f5.resultTypes.toList.any (Tryz.prog.ifacesRec ·))) = true := by kernel_rfl
theorem t21 : ((Rows.evalPartsRow.loopsOut == Tryz.f5.resultTypes.toList.any (Tryz.prog.loopsFrom ·))) = true := by kernel_rfl
theorem t22 : ((Rows.evalPartsRow.plainKeys == Tryz.prog.plainKeys)) = true := by kernel_rfl
theorem t23 : (Rows.evalPartsRow.shortTexts.isNone) = true := by kernel_rfl
theorem t24 : (Tryz.prog.stopsHeard) = true := by kernel_rfl
theorem t25 : (Tryz.prog.mayEnter) = true := by kernel_rfl
theorem t26 : ((Rows.evalPartsRow.lifted == Tryz.prog.liftsFinal)) = true := by kernel_rfl
theorem t27 : ((Tryz.prog.make == some Rows.evalPartsRow.make)) = true := by kernel_rfl
theorem t28 : ((Rows.evalPartsRow.kinds == (if Rows.evalPartsRow.domain.isEmpty then [] else Tryz.f5.params.toList.map fun t => match Tryz.prog.underlying t with | some (.int k) => some k | _ => none))) = true := by kernel_rfl
theorem t29 : ((Rows.evalPartsRow.pinned == Rows.evalPartsRow.pinnedBy)) = true := by kernel_rfl
theorem t30 : ((Rows.evalPartsRow.veiled == (Tryz.f5.params.toList ++ Rows.evalPartsSpec.plain.varTypes Tryz.prog ++ Tryz.f5.resultTypes.toList).any (Tryz.prog.veiledRec ·))) = true := by kernel_rfl
theorem t31 : (Rows.evalPartsRow.veiledFits Tryz.prog Tryz.f5.params.toList (Tryz.f5.params.toList ++ Rows.evalPartsSpec.plain.varTypes Tryz.prog ++ Tryz.f5.resultTypes.toList)) = true := by kernel_rfl
theorem and_mk {a b : Bool} (ha : a = true) (hb : b = true) : (a && b) = true := by rw [ha, hb]; rfl
theorem closed : joinedFacts Tryz.prog 5 Tryz.f5 Rows.evalPartsSpec Rows.evalPartsRow = true := (and_mk (and_mk (and_mk (and_mk (and_mk (and_mk (and_mk (and_mk (and_mk (and_mk (and_mk (and_mk (and_mk (and_mk (and_mk (and_mk (and_mk (and_mk (and_mk (and_mk (and_mk (and_mk (and_mk (and_mk (and_mk (and_mk (and_mk (and_mk (and_mk (and_mk (and_mk t0 t1) t2) t3) t4) t5) t6) t7) t8) t9) t10) t11) t12) t13) t14) t15) t16) t17) t18) t19) t20) t21) t22) t23) t24) t25) t26) t27) t28) t29) t30) t31)
end Go.Proofs.YtegbhdeaicgpkaaGreatDoor.factsEvalParts
