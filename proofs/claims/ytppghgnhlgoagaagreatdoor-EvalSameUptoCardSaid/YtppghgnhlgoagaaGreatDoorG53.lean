/- Parts. -/
import Derived.Test.YtppghgnhlgoagaaGreatDoorRows
import Derived.JoinedOf
import Derived.KernelRfl
set_option linter.all false
set_option maxRecDepth 100000
set_option maxHeartbeats 4000000
namespace Go.Proofs.YtppghgnhlgoagaaGreatDoor.factsEvalSame
open Go
theorem t0:(Rows.evalSameUptoRow.wf (OpenSpec.ofChange Rows.evalSameSpec))=true:=by kernel_rfl
theorem t1:(laidOutB Tryz.prog)=true:=by kernel_rfl
theorem t2:(mapsRowed Tryz.prog)=true:=by kernel_rfl
theorem t3:(Tryz.f5.params.all (Tryz.prog.readableRec ·))=true:=by kernel_rfl
theorem t4:(namedTie Tryz.prog Rows.evalSameUptoRow.named Rows.evalSameSpec.vars)=true:=by kernel_rfl
theorem t5:((Rows.evalSameUptoRow.stops==[]))=true:=by kernel_rfl
theorem t6:((Tryz.prog.stops==[]))=true:=by kernel_rfl
theorem t7:((Rows.evalSameUptoRow.knobs==[]))=true:=by kernel_rfl
theorem t8:((Tryz.prog.stopKnobs==[]))=true:=by kernel_rfl
theorem t9:((Rows.evalSameUptoRow.inPlace==Tryz.prog.inPlace 5))=true:=by kernel_rfl
theorem o7:((Rows.evalSameUptoRow.unfollowed==Tryz.prog.unfollowed 5))=true:=by kernel_rfl
theorem oz:((Rows.evalSameUptoRow.recurses==Tryz.prog.recurses 5))=true:=by kernel_rfl
theorem nU:((Rows.evalSameUptoRow.named==Tryz.prog.varsNamed 5))=true:=by kernel_rfl
theorem pM:((Rows.evalSameUptoRow.maps==(Tryz.f5.params.toList++Rows.evalSameSpec.plain.varTypes Tryz.prog).any (Tryz.prog.mapsRec ·)))=true:=by kernel_rfl
theorem pU:((Rows.evalSameUptoRow.ifaces==(Tryz.f5.params.toList++Rows.evalSameSpec.plain.varTypes Tryz.prog).any (Tryz.prog.ifacesRec ·)))=true:=by kernel_rfl
theorem pV:((Rows.evalSameUptoRow.mapsOut==Tryz.prog.mapsAmong Tryz.f5.resultTypes.toList))=true:=by kernel_rfl
theorem pW:((Rows.evalSameUptoRow.loops==(Tryz.f5.params.toList++Rows.evalSameSpec.plain.varTypes Tryz.prog).any (Tryz.prog.loopsFrom ·)))=true:=by kernel_rfl
theorem pY:((Rows.evalSameUptoRow.wideKeys==(Tryz.f5.params.toList++Rows.evalSameSpec.plain.varTypes Tryz.prog++Tryz.f5.resultTypes.toList).any (Tryz.prog.wideKeysFrom ·)))=true:=by kernel_rfl
theorem pg:(Rows.evalSameSpec.vars.all (Tryz.prog.varReadable ·))=true:=by kernel_rfl
theorem pq:(Tryz.f5.resultTypes.all (fun t=>Tryz.prog.readableRec t&&decide (t<Tryz.prog.types.size)))=true:=by kernel_rfl
theorem nS:((Rows.evalSameUptoRow.ifacesOut==Tryz.f5.resultTypes.toList.any (Tryz.prog.ifacesRec ·)))=true:=by kernel_rfl
theorem ni:((Rows.evalSameUptoRow.loopsOut==Tryz.f5.resultTypes.toList.any (Tryz.prog.loopsFrom ·)))=true:=by kernel_rfl
theorem jo:((Rows.evalSameUptoRow.plainKeys==Tryz.prog.plainKeys))=true:=by kernel_rfl
theorem ny:(Rows.evalSameUptoRow.shortTexts.isNone)=true:=by kernel_rfl
theorem nV:(Tryz.prog.stopsHeard)=true:=by kernel_rfl
theorem o8:(Tryz.prog.mayEnter)=true:=by kernel_rfl
theorem pz:((Rows.evalSameUptoRow.lifted==Tryz.prog.liftsFinal))=true:=by kernel_rfl
theorem qA:((Tryz.prog.make==some Rows.evalSameUptoRow.make))=true:=by kernel_rfl
theorem o9:((Rows.evalSameUptoRow.kinds==(if Rows.evalSameUptoRow.domain.isEmpty then [] else Tryz.f5.params.toList.map fun t=>match Tryz.prog.underlying t with|some (.int k)=>some k|_=>none)))=true:=by kernel_rfl
theorem qB:((Rows.evalSameUptoRow.pinned==Rows.evalSameUptoRow.pinnedBy))=true:=by kernel_rfl
theorem qC:((Rows.evalSameUptoRow.veiled==(Tryz.f5.params.toList++Rows.evalSameSpec.plain.varTypes Tryz.prog++Tryz.f5.resultTypes.toList).any (Tryz.prog.veiledRec ·)))=true:=by kernel_rfl
theorem oL:(Rows.evalSameUptoRow.veiledFits Tryz.prog Tryz.f5.params.toList (Tryz.f5.params.toList++Rows.evalSameSpec.plain.varTypes Tryz.prog++Tryz.f5.resultTypes.toList))=true:=by kernel_rfl
theorem zAl {a b:Bool} (ha:a=true) (hb:b=true):(a&&b)=true:=by rw[ha,hb];rfl
theorem closed:joinedFacts Tryz.prog 5 Tryz.f5 Rows.evalSameSpec Rows.evalSameUptoRow=true:=(zAl (zAl (zAl (zAl (zAl (zAl (zAl (zAl (zAl (zAl (zAl (zAl (zAl (zAl (zAl (zAl (zAl (zAl (zAl (zAl (zAl (zAl (zAl (zAl (zAl (zAl (zAl (zAl (zAl (zAl (zAl t0 t1) t2) t3) t4) t5) t6) t7) t8) t9) o7) oz) nU) pM) pU) pV) pW) pY) pg) pq) nS) ni) jo) ny) nV) o8) pz) qA) o9) qB) qC) oL)
end Go.Proofs.YtppghgnhlgoagaaGreatDoor.factsEvalSame
