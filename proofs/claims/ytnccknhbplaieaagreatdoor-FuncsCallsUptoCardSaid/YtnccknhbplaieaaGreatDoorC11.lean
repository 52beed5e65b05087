/- Parts. -/
import Derived.Test.YtnccknhbplaieaaGreatDoorC10
set_option linter.all false
set_option maxRecDepth 100000
set_option maxHeartbeats 4000000
namespace Go.Proofs.YtnccknhbplaieaaGreatDoor
open Go Go.RowKit Go.Proofs.Tryz
theorem aggs_may (a:Arg) (es:List En) (w:World) (hE:zAW w a es) (hn:a.n<=1000000000000):Rt 154 #[a.agg] w (.bool (argOk a es)):=may_any _ (by simp) a es w hE hn
theorem texts_may (a:Arg) (es:List En) (w:World) (hE:zAW w a es) (hn:a.n<=1000000000000):Rt 150 #[a.agg] w (.bool (argOk a es)):=may_any _ (by simp) a es w hE hn
end Go.Proofs.YtnccknhbplaieaaGreatDoor
