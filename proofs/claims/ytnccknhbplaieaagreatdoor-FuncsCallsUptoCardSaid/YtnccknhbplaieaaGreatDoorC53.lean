/- Parts. -/
import Derived.Test.YtnccknhbplaieaaGreatDoorRows
import Derived.KernelRfl
import GoSem.ClaimGoes
set_option linter.all false
set_option maxRecDepth 100000
set_option maxHeartbeats 4000000
namespace Go.Proofs.YtnccknhbplaieaaGreatDoor.fnCalls
open Go
theorem goes:false=Rows.funcsCallsUptoRow.goesBy Tryz.pinned.checked.prog:=by kernel_rfl
end Go.Proofs.YtnccknhbplaieaaGreatDoor.fnCalls
