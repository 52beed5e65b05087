/-
  Parts of a proof.
-/
import Derived.Test.YtppghgnhlgoagaaGreatDoorRows
import Derived.JoinedOf
import Derived.KernelRfl
set_option linter.all false
set_option maxRecDepth 100000
set_option maxHeartbeats 4000000
namespace Go.Proofs.YtppghgnhlgoagaaGreatDoor.factsEvalShort
open Go
theorem t0:(Rows.evalShortUptoRow.wf (OpenSpec.ofChange Rows.evalShortSpec))=true:=by kernel_rfl
theorem t1:(laidOutB Tryz.prog)=true:=by kernel_rfl
theorem t2:(mapsRowed Tryz.prog)=true:=by kernel_rfl
theorem t3:(Tryz.f4.params.all (Tryz.prog.readableRec ·))=true:=by kernel_rfl
theorem t4:(namedTie Tryz.prog Rows.evalShortUptoRow.named Rows.evalShortSpec.vars)=true:=by kernel_rfl
theorem t5:((Rows.evalShortUptoRow.stops==[]))=true:=by kernel_rfl
theorem t6:((Tryz.prog.stops==[]))=true:=by kernel_rfl
theorem t7:((Rows.evalShortUptoRow.knobs==[]))=true:=by kernel_rfl
theorem t8:((Tryz.prog.stopKnobs==[]))=true:=by kernel_rfl
theorem t9:((Rows.evalShortUptoRow.inPlace==Tryz.prog.inPlace 4))=true:=by kernel_rfl
theorem oh:((Rows.evalShortUptoRow.unfollowed==Tryz.prog.unfollowed 4))=true:=by kernel_rfl
theorem ou:((Rows.evalShortUptoRow.recurses==Tryz.prog.recurses 4))=true:=by kernel_rfl
theorem oK:((Rows.evalShortUptoRow.named==Tryz.prog.varsNamed 4))=true:=by kernel_rfl
theorem pK:((Rows.evalShortUptoRow.maps==(Tryz.f4.params.toList++Rows.evalShortSpec.plain.varTypes Tryz.prog).any (Tryz.prog.mapsRec ·)))=true:=by kernel_rfl
theorem pR:((Rows.evalShortUptoRow.ifaces==(Tryz.f4.params.toList++Rows.evalShortSpec.plain.varTypes Tryz.prog).any (Tryz.prog.ifacesRec ·)))=true:=by kernel_rfl
theorem pU:((Rows.evalShortUptoRow.mapsOut==Tryz.prog.mapsAmong Tryz.f4.resultTypes.toList))=true:=by kernel_rfl
theorem pV:((Rows.evalShortUptoRow.loops==(Tryz.f4.params.toList++Rows.evalShortSpec.plain.varTypes Tryz.prog).any (Tryz.prog.loopsFrom ·)))=true:=by kernel_rfl
theorem pX:((Rows.evalShortUptoRow.wideKeys==(Tryz.f4.params.toList++Rows.evalShortSpec.plain.varTypes Tryz.prog++Tryz.f4.resultTypes.toList).any (Tryz.prog.wideKeysFrom ·)))=true:=by kernel_rfl
theorem pY:(Rows.evalShortSpec.vars.all (Tryz.prog.varReadable ·))=true:=by kernel_rfl
theorem pg:(Tryz.f4.resultTypes.all (fun t=>Tryz.prog.readableRec t&&decide (t<Tryz.prog.types.size)))=true:=by kernel_rfl
theorem o8:((Rows.evalShortUptoRow.ifacesOut==Tryz.f4.resultTypes.toList.any (Tryz.prog.ifacesRec ·)))=true:=by kernel_rfl
theorem oH:((Rows.evalShortUptoRow.loopsOut==Tryz.f4.resultTypes.toList.any (Tryz.prog.loopsFrom ·)))=true:=by kernel_rfl
theorem o6:((Rows.evalShortUptoRow.plainKeys==Tryz.prog.plainKeys))=true:=by kernel_rfl
theorem oI:(Rows.evalShortUptoRow.shortTexts.isNone)=true:=by kernel_rfl
theorem oC:(Tryz.prog.stopsHeard)=true:=by kernel_rfl
theorem oL:(Tryz.prog.mayEnter)=true:=by kernel_rfl
theorem pq:((Rows.evalShortUptoRow.lifted==Tryz.prog.liftsFinal))=true:=by kernel_rfl
theorem pz:((Tryz.prog.make==some Rows.evalShortUptoRow.make))=true:=by kernel_rfl
theorem oM:((Rows.evalShortUptoRow.kinds==(if Rows.evalShortUptoRow.domain.isEmpty then [] else Tryz.f4.params.toList.map fun t=>match Tryz.prog.underlying t with|some (.int k)=>some k|_=>none)))=true:=by kernel_rfl
theorem qA:((Rows.evalShortUptoRow.pinned==Rows.evalShortUptoRow.pinnedBy))=true:=by kernel_rfl
theorem qB:((Rows.evalShortUptoRow.veiled==(Tryz.f4.params.toList++Rows.evalShortSpec.plain.varTypes Tryz.prog++Tryz.f4.resultTypes.toList).any (Tryz.prog.veiledRec ·)))=true:=by kernel_rfl
theorem oV:(Rows.evalShortUptoRow.veiledFits Tryz.prog Tryz.f4.params.toList (Tryz.f4.params.toList++Rows.evalShortSpec.plain.varTypes Tryz.prog++Tryz.f4.resultTypes.toList))=true:=by kernel_rfl
theorem zAr {a b:Bool} (ha:a=true) (hb:b=true):(a&&b)=true:=by rw[ha,hb];rfl
theorem closed:joinedFacts Tryz.prog 4 Tryz.f4 Rows.evalShortSpec Rows.evalShortUptoRow=true:=(zAr (zAr (zAr (zAr (zAr (zAr (zAr (zAr (zAr (zAr (zAr (zAr (zAr (zAr (zAr (zAr (zAr (zAr (zAr (zAr (zAr (zAr (zAr (zAr (zAr (zAr (zAr (zAr (zAr (zAr (zAr t0 t1) t2) t3) t4) t5) t6) t7) t8) t9) oh) ou) oK) pK) pR) pU) pV) pX) pY) pg) o8) oH) o6) oI) oC) oL) pq) pz) oM) qA) qB) oV)
end Go.Proofs.YtppghgnhlgoagaaGreatDoor.factsEvalShort
