/- Parts. -/
import Derived.Test.YtnccknhbplaieaaGreatDoorC02
set_option linter.all false
set_option maxRecDepth 100000
set_option maxHeartbeats 4000000
namespace Go.Proofs.YtnccknhbplaieaaGreatDoor
open Go Go.RowKit Go.Proofs.Tryz
def cellB (r c:Int):Bool:=(decide (1<=r)&&decide (r<=4096))&&(decide (1<=c)&&decide (c<=256))
def rectB (t l b r:Int):Bool:=(cellB t l&&cellB b r)&&(decide (t<=b)&&decide (l<=r))
def inB (t l b r row col:Int):Bool:=(decide (t<=row)&&decide (row<=b))&&(decide (l<=col)&&decide (col<=r))
def befB (r c r' c':Int):Bool:=if r=r' then decide (c<c') else decide (r<r')
theorem addr_May (r c:Int) (w:World):Rt 87 #[.agg #[.int .i64 r,.int .i64 c]] w (.bool (cellB r c)):=by
 go_enter func87,ntmps87;go_wp2;all_goals go_ret;all_goals refine⟨congrArg (fun b=>Ending.returned (Value.bool b)) (?_:_=cellB _ _),bel⟩;all_goals simp_all[cellB];all_goals omega
theorem addr_first (t l b r:Int) (w:World):Rt 88 #[.agg #[.int .i64 t,.int .i64 l,.int .i64 b,.int .i64 r]] w (.agg #[.int .i64 t,.int .i64 l]):=by
 go_enter func88,ntmps88;go_wp2;all_goals(go_returns;exact rb_)
theorem addr_last (t l b r:Int) (w:World):Rt 89 #[.agg #[.int .i64 t,.int .i64 l,.int .i64 b,.int .i64 r]] w (.agg #[.int .i64 b,.int .i64 r]):=by
 go_enter func89,ntmps89;go_wp2;all_goals(go_returns;exact rb_)
theorem addr_In (t l b r row col:Int) (w:World):Rt 31 #[.agg #[.int .i64 t,.int .i64 l,.int .i64 b,.int .i64 r],.agg #[.int .i64 row,.int .i64 col]] w (.bool (inB t l b r row col)):=by
 go_enter func31,ntmps31;go_wp2;all_goals go_ret;all_goals refine⟨congrArg (fun b=>Ending.returned (Value.bool b)) (?_:_=inB _ _ _ _ _ _),bel⟩;all_goals simp_all[inB];all_goals omega
theorem addr_Before (r c r' c':Int) (w:World):Rt 32 #[.agg #[.int .i64 r,.int .i64 c],.agg #[.int .i64 r',.int .i64 c']] w (.bool (befB r c r' c')):=by
 go_enter func32,ntmps32;go_wp2;all_goals go_ret;all_goals refine⟨congrArg (fun b=>Ending.returned (Value.bool b)) (?_:_=befB _ _ _ _),bel⟩;all_goals simp_all[befB]
end Go.Proofs.YtnccknhbplaieaaGreatDoor
