/-
  The closed facts of the row FuncsNames, one theorem each.
-/
import Derived.Test.YtpcihefhagipmaaGreatDoorRows
import Derived.JoinedOf
import Derived.KernelRfl
namespace Go.Proofs.YtpcihefhagipmaaGreatDoor.factsFuncsNames
open Go
set_option maxRecDepth 100000

theorem t0 : (Rows.funcsNamesRow.wf (OpenSpec.ofChange Rows.funcsNamesSpec)) = true := by kernel_rfl
theorem t1 : (laidOutB Tryz.prog) = true := by kernel_rfl
theorem t2 : (mapsRowed Tryz.prog) = true := by kernel_rfl
theorem t3 : (Tryz.f5.params.all (Tryz.prog.readableRec ·)) = true := by kernel_rfl
theorem t4 : (namedTie Tryz.prog Rows.funcsNamesRow.named Rows.funcsNamesSpec.vars) = true := by kernel_rfl
theorem t5 : ((Rows.funcsNamesRow.stops == [])) = true := by kernel_rfl
theorem t6 : ((Tryz.prog.stops == [])) = true := by kernel_rfl
theorem t7 : ((Rows.funcsNamesRow.knobs == [])) = true := by kernel_rfl
theorem t8 : ((Tryz.prog.stopKnobs == [])) = true := by kernel_rfl
theorem t9 : ((Rows.funcsNamesRow.inPlace == Tryz.prog.inPlace 5)) = true := by kernel_rfl
theorem t10 : ((Rows.funcsNamesRow.unfollowed == Tryz.prog.unfollowed 5)) = true := by kernel_rfl
theorem t11 : ((Rows.funcsNamesRow.recurses == Tryz.prog.recurses 5)) = true := by kernel_rfl
theorem t12 : ((Rows.funcsNamesRow.named == Tryz.prog.varsNamed 5)) = true := by kernel_rfl
theorem t13 : ((Rows.funcsNamesRow.maps == (Tryz.f5.params.toList ++ Rows.funcsNamesSpec.plain.varTypes Tryz.prog).any (Tryz.prog.mapsRec ·))) = true := by kernel_rfl
theorem t14 : ((Rows.funcsNamesRow.ifaces == (Tryz.f5.params.toList ++ Rows.funcsNamesSpec.plain.varTypes Tryz.prog).any (Tryz.prog.ifacesRec ·))) = true := by kernel_rfl
theorem t15 : ((Rows.funcsNamesRow.mapsOut == Tryz.prog.mapsAmong Tryz.f5.resultTypes.toList)) = true := by kernel_rfl
theorem t16 : ((Rows.funcsNamesRow.loops == (Tryz.f5.params.toList ++ Rows.funcsNamesSpec.plain.varTypes Tryz.prog).any (Tryz.prog.loopsFrom ·))) = true := by kernel_rfl
theorem t17 : ((Rows.funcsNamesRow.wideKeys == (Tryz.f5.params.toList ++ Rows.funcsNamesSpec.plain.varTypes Tryz.prog ++ Tryz.f5.resultTypes.toList).any (Tryz.prog.wideKeysFrom ·))) = true := by kernel_rfl
theorem t18 : (Rows.funcsNamesSpec.vars.all (Tryz.prog.varReadable ·)) = true := by kernel_rfl
theorem t19 : (Tryz.f5.resultTypes.all (fun t => Tryz.prog.readableRec t && decide (t < Tryz.prog.types.size))) = true := by kernel_rfl
theorem t20 : ((Rows.funcsNamesRow.ifacesOut == Tryz.f5.resultTypes.toList.any (Tryz.prog.ifacesRec ·))) = true := by kernel_rfl
theorem t21 : ((Rows.funcsNamesRow.loopsOut == Tryz.f5.resultTypes.toList.any (Tryz.prog.loopsFrom ·))) = true := by kernel_rfl
theorem t22 : ((Rows.funcsNamesRow.plainKeys == Tryz.prog.plainKeys)) = true := by kernel_rfl
theorem t23 : (Rows.funcsNamesRow.shortTexts.isNone) = true := by kernel_rfl
theorem t24 : (Tryz.prog.stopsHeard) = true := by kernel_rfl
theorem t25 : (Tryz.prog.mayEnter) = true := by kernel_rfl
theorem t26 : ((Rows.funcsNamesRow.lifted == Tryz.prog.liftsFinal)) = true := by kernel_rfl
theorem t27 : ((Tryz.prog.make == some Rows.funcsNamesRow.make)) = true := by kernel_rfl
theorem t28 : ((Rows.funcsNamesRow.kinds == (if Rows.funcsNamesRow.domain.isEmpty then [] else Tryz.f5.params.toList.map fun t => match Tryz.prog.underlying t with | some (.int k) => some k | _ => none))) = true := by kernel_rfl
theorem t29 : ((Rows.funcsNamesRow.pinned == Rows.funcsNamesRow.pinnedBy)) = true := by kernel_rfl
theorem t30 : ((Rows.funcsNamesRow.veiled == (Tryz.f5.params.toList ++ Rows.funcsNamesSpec.plain.varTypes Tryz.prog ++ Tryz.f5.resultTypes.toList).any (Tryz.prog.veiledRec ·))) = true := by kernel_rfl
theorem t31 : (Rows.funcsNamesRow.veiledFits Tryz.prog Tryz.f5.params.toList (Tryz.f5.params.toList ++ Rows.funcsNamesSpec.plain.varTypes Tryz.prog ++ Tryz.f5.resultTypes.toList)) = true := by kernel_rfl
theorem and_mk {a b : Bool} (ha : a = true) (hb : b = true) : (a && b) = true := by rw [ha, hb]; rfl
theorem closed : joinedFacts Tryz.prog 5 Tryz.f5 Rows.funcsNamesSpec Rows.funcsNamesRow = true := (and_mk (and_mk (and_mk (and_mk (and_mk (and_mk (and_mk (and_mk (and_mk (and_mk (and_mk (and_mk (and_mk (and_mk (and_mk (and_mk (and_mk (and_mk (and_mk (and_mk (and_mk (and_mk (and_mk (and_mk (and_mk (and_mk (and_mk (and_mk (and_mk (and_mk (and_mk t0 t1) t2) t3) t4) t5) t6) t7) t8) t9) t10) t11) t12) t13) t14) t15) t16) t17) t18) t19) t20) t21) t22) t23) t24) t25) t26) t27) t28) t29) t30) t31)
end Go.Proofs.YtpcihefhagipmaaGreatDoor.factsFuncsNames
