/- Parts. -/
import Derived.Test.YtnccknhbplaieaaGreatDoorRows
import Derived.KernelRfl
import GoSem.ClaimGoes
set_option linter.all false
set_option maxRecDepth 100000
set_option maxHeartbeats 4000000
namespace Go.Proofs.YtnccknhbplaieaaGreatDoor.fnCalls
open Go
theorem goes_none {P:Program} (h:P.funcs.any Func.goes=false) (f:FuncId):P.goes f=false:=by
 unfold Program.goes;rw[h,Bool.and_false,Bool.or_false,List.any_eq_false];intro g _;cases e:P.funcs[g]? with
 | none=>simp
 | some fn =>
   have:=Array.any_eq_false.1 h g (by rcases Array.getElem?_eq_some_iff.1 e with ⟨hg,_⟩;exact hg);rcases Array.getElem?_eq_some_iff.1 e with ⟨hg,rfl⟩
   simpa using this
theorem goes_at {P:Program} (h:P.funcs.any Func.goes=false) (c:OpenClaim) (hc:(match c.start with| .entering=>true|_=>false)=true):false=c.goesBy P:=by
 unfold OpenClaim.goesBy Program.goesAt Program.goesFrom;cases hs:c.start<;>rw[hs] at hc<;>first|(cases hc;done)|skip
 cases e:P.funcNamed c.func with
 | none=>rfl
 | some f=>simp[goes_none h f]
theorem none_goes:Tryz.pinned.checked.prog.funcs.any Func.goes=false:=by kernel_rfl
theorem goes:false=Rows.funcsCallsUptoRow.goesBy Tryz.pinned.checked.prog:=goes_at none_goes _ rfl
end Go.Proofs.YtnccknhbplaieaaGreatDoor.fnCalls
