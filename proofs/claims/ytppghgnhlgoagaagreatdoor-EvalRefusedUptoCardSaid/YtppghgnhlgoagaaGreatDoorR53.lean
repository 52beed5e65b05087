/-
  Parts of a proof.
-/
import Derived.Test.YtppghgnhlgoagaaGreatDoorRows
import Derived.JoinedOf
import Derived.KernelRfl
set_option linter.all false
set_option maxRecDepth 100000
set_option maxHeartbeats 4000000
namespace Go.Proofs.YtppghgnhlgoagaaGreatDoor.factsEvalRefused
open Go
theorem t0:(Rows.evalRefusedUptoRow.wf (OpenSpec.ofChange Rows.evalRefusedSpec))=true:=by kernel_rfl
theorem t1:(laidOutB Tryz.prog)=true:=by kernel_rfl
theorem t2:(mapsRowed Tryz.prog)=true:=by kernel_rfl
theorem t3:(Tryz.f3.params.all (Tryz.prog.readableRec ·))=true:=by kernel_rfl
theorem t4:(namedTie Tryz.prog Rows.evalRefusedUptoRow.named Rows.evalRefusedSpec.vars)=true:=by kernel_rfl
theorem t5:((Rows.evalRefusedUptoRow.stops==[]))=true:=by kernel_rfl
theorem t6:((Tryz.prog.stops==[]))=true:=by kernel_rfl
theorem t7:((Rows.evalRefusedUptoRow.knobs==[]))=true:=by kernel_rfl
theorem t8:((Tryz.prog.stopKnobs==[]))=true:=by kernel_rfl
theorem t9:((Rows.evalRefusedUptoRow.inPlace==Tryz.prog.inPlace 3))=true:=by kernel_rfl
theorem oh:((Rows.evalRefusedUptoRow.unfollowed==Tryz.prog.unfollowed 3))=true:=by kernel_rfl
theorem ou:((Rows.evalRefusedUptoRow.recurses==Tryz.prog.recurses 3))=true:=by kernel_rfl
theorem o6:((Rows.evalRefusedUptoRow.named==Tryz.prog.varsNamed 3))=true:=by kernel_rfl
theorem pK:((Rows.evalRefusedUptoRow.maps==(Tryz.f3.params.toList++Rows.evalRefusedSpec.plain.varTypes Tryz.prog).any (Tryz.prog.mapsRec ·)))=true:=by kernel_rfl
theorem pR:((Rows.evalRefusedUptoRow.ifaces==(Tryz.f3.params.toList++Rows.evalRefusedSpec.plain.varTypes Tryz.prog).any (Tryz.prog.ifacesRec ·)))=true:=by kernel_rfl
theorem pU:((Rows.evalRefusedUptoRow.mapsOut==Tryz.prog.mapsAmong Tryz.f3.resultTypes.toList))=true:=by kernel_rfl
theorem pV:((Rows.evalRefusedUptoRow.loops==(Tryz.f3.params.toList++Rows.evalRefusedSpec.plain.varTypes Tryz.prog).any (Tryz.prog.loopsFrom ·)))=true:=by kernel_rfl
theorem pX:((Rows.evalRefusedUptoRow.wideKeys==(Tryz.f3.params.toList++Rows.evalRefusedSpec.plain.varTypes Tryz.prog++Tryz.f3.resultTypes.toList).any (Tryz.prog.wideKeysFrom ·)))=true:=by kernel_rfl
theorem pY:(Rows.evalRefusedSpec.vars.all (Tryz.prog.varReadable ·))=true:=by kernel_rfl
theorem pg:(Tryz.f3.resultTypes.all (fun t=>Tryz.prog.readableRec t&&decide (t<Tryz.prog.types.size)))=true:=by kernel_rfl
theorem nS:((Rows.evalRefusedUptoRow.ifacesOut==Tryz.f3.resultTypes.toList.any (Tryz.prog.ifacesRec ·)))=true:=by kernel_rfl
theorem ng:((Rows.evalRefusedUptoRow.loopsOut==Tryz.f3.resultTypes.toList.any (Tryz.prog.loopsFrom ·)))=true:=by kernel_rfl
theorem jo:((Rows.evalRefusedUptoRow.plainKeys==Tryz.prog.plainKeys))=true:=by kernel_rfl
theorem ni:(Rows.evalRefusedUptoRow.shortTexts.isNone)=true:=by kernel_rfl
theorem nU:(Tryz.prog.stopsHeard)=true:=by kernel_rfl
theorem o7:(Tryz.prog.mayEnter)=true:=by kernel_rfl
theorem pq:((Rows.evalRefusedUptoRow.lifted==Tryz.prog.liftsFinal))=true:=by kernel_rfl
theorem pz:((Tryz.prog.make==some Rows.evalRefusedUptoRow.make))=true:=by kernel_rfl
theorem o8:((Rows.evalRefusedUptoRow.kinds==(if Rows.evalRefusedUptoRow.domain.isEmpty then [] else Tryz.f3.params.toList.map fun t=>match Tryz.prog.underlying t with|some (.int k)=>some k|_=>none)))=true:=by kernel_rfl
theorem qA:((Rows.evalRefusedUptoRow.pinned==Rows.evalRefusedUptoRow.pinnedBy))=true:=by kernel_rfl
theorem qB:((Rows.evalRefusedUptoRow.veiled==(Tryz.f3.params.toList++Rows.evalRefusedSpec.plain.varTypes Tryz.prog++Tryz.f3.resultTypes.toList).any (Tryz.prog.veiledRec ·)))=true:=by kernel_rfl
theorem oJ:(Rows.evalRefusedUptoRow.veiledFits Tryz.prog Tryz.f3.params.toList (Tryz.f3.params.toList++Rows.evalRefusedSpec.plain.varTypes Tryz.prog++Tryz.f3.resultTypes.toList))=true:=by kernel_rfl
theorem zAm {a b:Bool} (ha:a=true) (hb:b=true):(a&&b)=true:=by rw[ha,hb];rfl
theorem closed:joinedFacts Tryz.prog 3 Tryz.f3 Rows.evalRefusedSpec Rows.evalRefusedUptoRow=true:=(zAm (zAm (zAm (zAm (zAm (zAm (zAm (zAm (zAm (zAm (zAm (zAm (zAm (zAm (zAm (zAm (zAm (zAm (zAm (zAm (zAm (zAm (zAm (zAm (zAm (zAm (zAm (zAm (zAm (zAm (zAm t0 t1) t2) t3) t4) t5) t6) t7) t8) t9) oh) ou) o6) pK) pR) pU) pV) pX) pY) pg) nS) ng) jo) ni) nU) o7) pq) pz) o8) qA) qB) oJ)
end Go.Proofs.YtppghgnhlgoagaaGreatDoor.factsEvalRefused
