/- Parts. -/
import Derived.Test.YtnccknhbplaieaaGreatDoorC02
set_option linter.all false
set_option maxRecDepth 100000
set_option maxHeartbeats 4000000
namespace Go.Proofs.YtnccknhbplaieaaGreatDoor
open Go Go.RowKit Go.Proofs.Tryz
theorem ref01_May (x:Int) (w:World):Rt 95 #[.int .i64 x] w (.bool (decide (-9223372036854775807<=x))):=by
 go_enter func95,ntmps95;go_wp2;go_ret;exact rb_
theorem empty_iff (s:ByteArray):(s=⟨#[]⟩)=(s.toList.isEmpty=true):=by
 rw[ByteArray.toList_eq];refine propext ⟨fun h=>by subst h;rfl,fun h=>bytes_inj (by simpa using h)⟩
theorem ref02_May (v:V) (hlo: -9223372036854775808<=v.num) (w:World):Rt 122 #[(vG v)] w (.bool (mayG v)):=by
 obtain⟨a,b,s,c,d⟩:=v;dsimp only[vG];go_enter func122,ntmps122;go_wp2_with(go_at_call 95;refine mB (ref01_May _ _) ?_;intro l n)
 all_goals go_ret;all_goals refine⟨congrArg (fun b=>Ending.returned (Value.bool b)) (?_:_=mayG _),bel⟩;all_goals have he:=empty_iff s;all_goals simp_all[mayG,eqB,bareG,isCode,minI]
 ·omega
 ·omega
 ·rw[Bool.eq_iff_iff];simp;omega
end Go.Proofs.YtnccknhbplaieaaGreatDoor
