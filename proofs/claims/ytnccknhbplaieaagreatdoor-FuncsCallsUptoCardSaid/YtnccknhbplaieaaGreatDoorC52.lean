/- Parts. -/
import Derived.Test.YtnccknhbplaieaaGreatDoorRows
import Derived.JoinedOf
import Derived.KernelRfl
set_option linter.all false
set_option maxRecDepth 100000
set_option maxHeartbeats 4000000
namespace Go.Proofs.YtnccknhbplaieaaGreatDoor.factsFuncsCalls
open Go
theorem t0:(Rows.funcsCallsUptoRow.wf (OpenSpec.ofChange Rows.funcsCallsSpec))=true:=by kernel_rfl
theorem t1:(laidOutB Tryz.prog)=true:=by kernel_rfl
theorem t2:(mapsRowed Tryz.prog)=true:=by kernel_rfl
theorem t3:(Tryz.f3.params.all (Tryz.prog.readableRec ·))=true:=by kernel_rfl
theorem t4:(namedTie Tryz.prog Rows.funcsCallsUptoRow.named Rows.funcsCallsSpec.vars)=true:=by kernel_rfl
theorem t5:((Rows.funcsCallsUptoRow.stops==[]))=true:=by kernel_rfl
theorem t6:((Tryz.prog.stops==[]))=true:=by kernel_rfl
theorem t7:((Rows.funcsCallsUptoRow.knobs==[]))=true:=by kernel_rfl
theorem t8:((Tryz.prog.stopKnobs==[]))=true:=by kernel_rfl
theorem t9:((Rows.funcsCallsUptoRow.inPlace==Tryz.prog.inPlace 3))=true:=by kernel_rfl
theorem bF:((Rows.funcsCallsUptoRow.unfollowed==Tryz.prog.unfollowed 3))=true:=by kernel_rfl
theorem bH:((Rows.funcsCallsUptoRow.recurses==Tryz.prog.recurses 3))=true:=by kernel_rfl
theorem bM:((Rows.funcsCallsUptoRow.named==Tryz.prog.varsNamed 3))=true:=by kernel_rfl
theorem bQ:((Rows.funcsCallsUptoRow.maps==(Tryz.f3.params.toList++Rows.funcsCallsSpec.plain.varTypes Tryz.prog).any (Tryz.prog.mapsRec ·)))=true:=by kernel_rfl
theorem bV:((Rows.funcsCallsUptoRow.ifaces==(Tryz.f3.params.toList++Rows.funcsCallsSpec.plain.varTypes Tryz.prog).any (Tryz.prog.ifacesRec ·)))=true:=by kernel_rfl
theorem bZ:((Rows.funcsCallsUptoRow.mapsOut==Tryz.prog.mapsAmong Tryz.f3.resultTypes.toList))=true:=by kernel_rfl
theorem bg:((Rows.funcsCallsUptoRow.loops==(Tryz.f3.params.toList++Rows.funcsCallsSpec.plain.varTypes Tryz.prog).any (Tryz.prog.loopsFrom ·)))=true:=by kernel_rfl
theorem bn:((Rows.funcsCallsUptoRow.wideKeys==(Tryz.f3.params.toList++Rows.funcsCallsSpec.plain.varTypes Tryz.prog++Tryz.f3.resultTypes.toList).any (Tryz.prog.wideKeysFrom ·)))=true:=by kernel_rfl
theorem bu:(Rows.funcsCallsSpec.vars.all (Tryz.prog.varReadable ·))=true:=by kernel_rfl
theorem cO:(Tryz.f3.resultTypes.all (fun t=>Tryz.prog.readableRec t&&decide (t<Tryz.prog.types.size)))=true:=by kernel_rfl
theorem aG:((Rows.funcsCallsUptoRow.ifacesOut==Tryz.f3.resultTypes.toList.any (Tryz.prog.ifacesRec ·)))=true:=by kernel_rfl
theorem aP:((Rows.funcsCallsUptoRow.loopsOut==Tryz.f3.resultTypes.toList.any (Tryz.prog.loopsFrom ·)))=true:=by kernel_rfl
theorem aA:((Rows.funcsCallsUptoRow.plainKeys==Tryz.prog.plainKeys))=true:=by kernel_rfl
theorem aQ:(Rows.funcsCallsUptoRow.shortTexts.isNone)=true:=by kernel_rfl
theorem aU:(Tryz.prog.stopsHeard)=true:=by kernel_rfl
theorem aV:(Tryz.prog.mayEnter)=true:=by kernel_rfl
theorem cZ:((Rows.funcsCallsUptoRow.lifted==Tryz.prog.liftsFinal))=true:=by kernel_rfl
theorem dA:((Tryz.prog.make==some Rows.funcsCallsUptoRow.make))=true:=by kernel_rfl
theorem dB:((Rows.funcsCallsUptoRow.kinds==(if Rows.funcsCallsUptoRow.domain.isEmpty then [] else Tryz.f3.params.toList.map fun t=>match Tryz.prog.underlying t with|some (.int k)=>some k|_=>none)))=true:=by kernel_rfl
theorem dC:((Rows.funcsCallsUptoRow.pinned==Rows.funcsCallsUptoRow.pinnedBy))=true:=by kernel_rfl
theorem dD:((Rows.funcsCallsUptoRow.veiled==(Tryz.f3.params.toList++Rows.funcsCallsSpec.plain.varTypes Tryz.prog++Tryz.f3.resultTypes.toList).any (Tryz.prog.veiledRec ·)))=true:=by kernel_rfl
theorem aj:(Rows.funcsCallsUptoRow.veiledFits Tryz.prog Tryz.f3.params.toList (Tryz.f3.params.toList++Rows.funcsCallsSpec.plain.varTypes Tryz.prog++Tryz.f3.resultTypes.toList))=true:=by kernel_rfl
theorem zAp {a b:Bool} (ha:a=true) (hb:b=true):(a&&b)=true:=by rw[ha,hb];rfl
theorem closed:joinedFacts Tryz.prog 3 Tryz.f3 Rows.funcsCallsSpec Rows.funcsCallsUptoRow=true:=(zAp (zAp (zAp (zAp (zAp (zAp (zAp (zAp (zAp (zAp (zAp (zAp (zAp (zAp (zAp (zAp (zAp (zAp (zAp (zAp (zAp (zAp (zAp (zAp (zAp (zAp (zAp (zAp (zAp (zAp (zAp t0 t1) t2) t3) t4) t5) t6) t7) t8) t9) bF) bH) bM) bQ) bV) bZ) bg) bn) bu) cO) aG) aP) aA) aQ) aU) aV) cZ) dA) dB) dC) dD) aj)
end Go.Proofs.YtnccknhbplaieaaGreatDoor.factsFuncsCalls
