/-
  The closed facts of the row FuncsTakes, one theorem each.
-/
import Derived.Test.YtpcihefhagipmaaGreatDoorRows
import Derived.JoinedOf
import Derived.KernelRfl
namespace Go.Proofs.YtpcihefhagipmaaGreatDoor.factsFuncsTakes
open Go
set_option maxRecDepth 100000

theorem t0 : (Rows.funcsTakesRow.wf (OpenSpec.ofChange Rows.funcsTakesSpec)) = true := by kernel_rfl
theorem t1 : (laidOutB Tryz.prog) = true := by kernel_rfl
theorem t2 : (mapsRowed Tryz.prog) = true := by kernel_rfl
theorem t3 : (Tryz.f4.params.all (Tryz.prog.readableRec ·)) = true := by kernel_rfl
theorem t4 : (namedTie Tryz.prog Rows.funcsTakesRow.named Rows.funcsTakesSpec.vars) = true := by kernel_rfl
theorem t5 : ((Rows.funcsTakesRow.stops == [])) = true := by kernel_rfl
theorem t6 : ((Tryz.prog.stops == [])) = true := by kernel_rfl
theorem t7 : ((Rows.funcsTakesRow.knobs == [])) = true := by kernel_rfl
theorem t8 : ((Tryz.prog.stopKnobs == [])) = true := by kernel_rfl
theorem t9 : ((Rows.funcsTakesRow.inPlace == Tryz.prog.inPlace 4)) = true := by kernel_rfl
theorem t10 : ((Rows.funcsTakesRow.unfollowed == Tryz.prog.unfollowed 4)) = true := by kernel_rfl
theorem t11 : ((Rows.funcsTakesRow.recurses == Tryz.prog.recurses 4)) = true := by kernel_rfl
theorem t12 : ((Rows.funcsTakesRow.named == Tryz.prog.varsNamed 4)) = true := by kernel_rfl
theorem t13 : ((Rows.funcsTakesRow.maps == (Tryz.f4.params.toList ++ Rows.funcsTakesSpec.plain.varTypes Tryz.prog).any (Tryz.prog.mapsRec ·))) = true := by kernel_rfl
theorem t14 : ((Rows.funcsTakesRow.ifaces == (Tryz.f4.params.toList ++ Rows.funcsTakesSpec.plain.varTypes Tryz.prog).any (Tryz.prog.ifacesRec ·))) = true := by kernel_rfl
theorem t15 : ((Rows.funcsTakesRow.mapsOut == Tryz.prog.mapsAmong Tryz.f4.resultTypes.toList)) = true := by kernel_rfl
theorem t16 : ((Rows.funcsTakesRow.loops == (Tryz.f4.params.toList ++ Rows.funcsTakesSpec.plain.varTypes Tryz.prog).any (Tryz.prog.loopsFrom ·))) = true := by kernel_rfl
theorem t17 : ((Rows.funcsTakesRow.wideKeys == (Tryz.f4.params.toList ++ Rows.funcsTakesSpec.plain.varTypes Tryz.prog ++ Tryz.f4.resultTypes.toList).any (Tryz.prog.wideKeysFrom ·))) = true := by kernel_rfl
theorem t18 : (Rows.funcsTakesSpec.vars.all (Tryz.prog.varReadable ·)) = true := by kernel_rfl
theorem t19 : (Tryz.f4.resultTypes.all (fun t => Tryz.prog.readableRec t && decide (t < Tryz.prog.types.size))) = true := by kernel_rfl
theorem t20 : ((Rows.funcsTakesRow.ifacesOut == Tryz.f4.resultTypes.toList.any (Tryz.prog.ifacesRec ·))) = true := by kernel_rfl
theorem t21 : ((Rows.funcsTakesRow.loopsOut == Tryz.f4.resultTypes.toList.any (Tryz.prog.loopsFrom ·))) = true := by kernel_rfl
theorem t22 : ((Rows.funcsTakesRow.plainKeys == Tryz.prog.plainKeys)) = true := by kernel_rfl
theorem t23 : (Rows.funcsTakesRow.shortTexts.isNone) = true := by kernel_rfl
theorem t24 : (Tryz.prog.stopsHeard) = true := by kernel_rfl
theorem t25 : (Tryz.prog.mayEnter) = true := by kernel_rfl
theorem t26 : ((Rows.funcsTakesRow.lifted == Tryz.prog.liftsFinal)) = true := by kernel_rfl
theorem t27 : ((Tryz.prog.make == some Rows.funcsTakesRow.make)) = true := by kernel_rfl
theorem t28 : ((Rows.funcsTakesRow.kinds == (if Rows.funcsTakesRow.domain.isEmpty then [] else Tryz.f4.params.toList.map fun t => match Tryz.prog.underlying t with | some (.int k) => some k | _ => none))) = true := by kernel_rfl
theorem t29 : ((Rows.funcsTakesRow.pinned == Rows.funcsTakesRow.pinnedBy)) = true := by kernel_rfl
theorem t30 : ((Rows.funcsTakesRow.veiled == (Tryz.f4.params.toList ++ Rows.funcsTakesSpec.plain.varTypes Tryz.prog ++ Tryz.f4.resultTypes.toList).any (Tryz.prog.veiledRec ·))) = true := by kernel_rfl
theorem t31 : (Rows.funcsTakesRow.veiledFits Tryz.prog Tryz.f4.params.toList (Tryz.f4.params.toList ++ Rows.funcsTakesSpec.plain.varTypes Tryz.prog ++ Tryz.f4.resultTypes.toList)) = true := by kernel_rfl
theorem and_mk {a b : Bool} (ha : a = true) (hb : b = true) : (a && b) = true := by rw [ha, hb]; rfl
theorem closed : joinedFacts Tryz.prog 4 Tryz.f4 Rows.funcsTakesSpec Rows.funcsTakesRow = true := (and_mk (and_mk (and_mk (and_mk (and_mk (and_mk (and_mk (and_mk (and_mk (and_mk (and_mk (and_mk (and_mk (and_mk (and_mk (and_mk (and_mk (and_mk (and_mk (and_mk (and_mk (and_mk (and_mk (and_mk (and_mk (and_mk (and_mk (and_mk (and_mk (and_mk (and_mk t0 t1) t2) t3) t4) t5) t6) t7) t8) t9) t10) t11) t12) t13) t14) t15) t16) t17) t18) t19) t20) t21) t22) t23) t24) t25) t26) t27) t28) t29) t30) t31)
end Go.Proofs.YtpcihefhagipmaaGreatDoor.factsFuncsTakes
