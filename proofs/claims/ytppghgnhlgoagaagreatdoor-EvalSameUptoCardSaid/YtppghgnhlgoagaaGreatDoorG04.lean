/- Parts. -/
import Derived.Test.YtppghgnhlgoagaaGreatDoorG03
set_option linter.all false
set_option maxRecDepth 100000
set_option maxHeartbeats 4000000
namespace Go.Proofs.YtppghgnhlgoagaaGreatDoor
open Go Go.RowKit
structure Nd where
 kind:Int
 v:V
 row:Int
 col:Int
 op:Int
def Nd.cells (x:Nd):List Value:=[.int .i64 x.kind,.int .i64 x.v.tag,.int .i64 x.v.num,.string x.v.str,.bool x.v.is,.int .i64 x.v.code,.int .i64 x.row,.int .i64 x.col,.int .i64 0,.int .i64 0,.int .i64 0,.int .i64 0,.int .i64 x.op,.string ⟨#[]⟩,.int .i64 0]
def Nd.val (x:Nd):Value:=.agg #[.int .i64 x.kind,.int .i64 x.v.tag,.int .i64 x.v.num,.string x.v.str,.bool x.v.is,.int .i64 x.v.code,.int .i64 x.row,.int .i64 x.col,.int .i64 0,.int .i64 0,.int .i64 0,.int .i64 0,.int .i64 x.op,.string ⟨#[]⟩,.int .i64 0]
def V0:V:=⟨0,0,⟨#[]⟩,false,0⟩
def Nd.cell (r c:Int):Nd:=⟨2,V0,r,c,0⟩
def Nd.value (v:V):Nd:=⟨1,v,0,0,0⟩
def lev (k:Int):Int:=if k=1 then 5 else if k=2 then 6 else if k=3∨k=4 then 4 else if k=5∨k=6 then 3 else if k=7 then 2 else 1
theorem refs_level (k:Int) (h1:1<=k) (h2:k<=13) (w:World):Calls Tryz.prog 51 #[.int .i64 k] w fun e w'=>e=.returned (.int .i64 (lev k))/\w=w':=by
 have hk:k=1∨k=2∨k=3∨k=4∨k=5∨k=6∨k=7∨k=8∨k=9∨k=10∨k=11∨k=12∨k=13:=by omega
 clear h1 h2
 rcases hk with rfl|rfl|rfl|rfl|rfl|rfl|rfl|rfl|rfl|rfl|rfl|rfl|rfl
 all_goals
  go_enter Tryz.func51,Tryz.ntmps51
  go_wp2
  go_ret
  exact⟨rfl,rfl⟩
def insG (d b least:Int):Int:=if b<least then d+1 else d
end Go.Proofs.YtppghgnhlgoagaaGreatDoor
