/- Parts. -/
import Derived.Test.YtnccknhbplaieaaGreatDoorC01
import Derived.Deep.RegionWith
import Derived.Deep.RegionHeld3
import Derived.BigGuardPart
set_option linter.all false
set_option maxRecDepth 100000
set_option maxHeartbeats 4000000
namespace Go.Proofs.YtnccknhbplaieaaGreatDoor
open Go Go.RowKit Go.Proofs.Tryz
def eqB (x y:V):Bool:=decide (x=y)
theorem eqlV (a b:Int) (s:ByteArray) (c:Bool) (d:Int) (a' b':Int) (s':ByteArray) (c':Bool) (d':Int) (w:World) :
  (binOp .eql 29 (.agg #[.int .i64 a,.int .i64 b,.string s,.bool c,.int .i64 d]) (.agg #[.int .i64 a',.int .i64 b',.string s',.bool c',.int .i64 d'])).run prog w=.ok (.bool (eqB ⟨a,b,s,c,d⟩ ⟨a',b',s',c',d'⟩)) w:=by
 unfold eqB;rw[run_eql_struct];have hs:(s.toList=s'.toList) ↔ s=s':=by
  rw[ByteArray.toList_eq,ByteArray.toList_eq];exact⟨fun h=>bytes_inj h,fun h=>by rw[h]⟩
 go_simp;by_cases h1:a=a'<;>by_cases h2:b=b'<;>by_cases h3:s=s'<;>by_cases h4:c=c'<;>by_cases h5:d=d'<;>simp[h1,h2,h3,h4,h5,hs]
def mayG (v:V):Bool:=(decide (0<=v.tag)&&decide (v.tag<=4))&&eqB (bareG v) ⟨v.tag,0,⟨#[]⟩,false,0⟩&&(if v.tag=1 then v.num != minI else if v.tag=4 then isCode v.code else true)
theorem neqV (a b:Int) (s:ByteArray) (c:Bool) (d:Int) (a' b':Int) (s':ByteArray) (c':Bool) (d':Int) (w:World) :
  (binOp .neq 29 (.agg #[.int .i64 a,.int .i64 b,.string s,.bool c,.int .i64 d]) (.agg #[.int .i64 a',.int .i64 b',.string s',.bool c',.int .i64 d'])).run prog w=.ok (.bool (!eqB ⟨a,b,s,c,d⟩ ⟨a',b',s',c',d'⟩)) w:=by
 unfold eqB;rw[run_neq_struct];have hs:(s.toList=s'.toList) ↔ s=s':=by
  rw[ByteArray.toList_eq,ByteArray.toList_eq];exact⟨fun h=>bytes_inj h,fun h=>by rw[h]⟩
 go_simp;by_cases h1:a=a'<;>by_cases h2:b=b'<;>by_cases h3:s=s'<;>by_cases h4:c=c'<;>by_cases h5:d=d'<;>simp[h1,h2,h3,h4,h5,hs]
theorem may0 {v:V} (h:(!eqB ⟨(bareG v).tag,(bareG v).num,(bareG v).str,(bareG v).is,(bareG v).code⟩ ⟨v.tag,0,⟨#[]⟩,false,0⟩)=true):mayG v=false:=by
 have h:(!eqB (bareG v) ⟨v.tag,0,⟨#[]⟩,false,0⟩)=true:=h;simp at h;simp[mayG,h]
theorem may1 {v:V} (h0:decide (v.tag<0)=false) (h4:decide (4<v.tag)=false) (h:(!eqB ⟨(bareG v).tag,(bareG v).num,(bareG v).str,(bareG v).is,(bareG v).code⟩ ⟨v.tag,0,⟨#[]⟩,false,0⟩)=false) :
  mayG v=(if v.tag=1 then v.num != minI else if v.tag=4 then isCode v.code else true):=by
 have h:(!eqB (bareG v) ⟨v.tag,0,⟨#[]⟩,false,0⟩)=false:=h;simp at h h0 h4;simp[mayG,h,h0,h4]
theorem zB1 (v:V) (w:World):Rt 29 #[(vG v)] w (.bool (mayG v)):=by
 by_cases h0:v.tag<0
 ·go_enter func29,ntmps29;go_wp2;go_quiet (fail);go_wp2;go_ret;exact⟨by simp[mayG,show ¬ 0<=v.tag by omega],bel⟩
 ·by_cases h1:4<v.tag
  ·go_enter func29,ntmps29;go_wp2;go_quiet (fail);go_wp2;go_ret;exact⟨by simp[mayG,show ¬ v.tag<=4 by omega],bel⟩
  ·have hq:=neqV;have ha:decide (v.tag<0)=false:=by simpa using h0
   have hb:decide (4<v.tag)=false:=by simpa using h1
   clear h0 h1;go_enter func29,ntmps29;go_wp2
   go_region_held3 (fun w'=>w'.cell? ⟨w.heap.size,0,none⟩=some (.int .i64 v.tag)/\w'.cell? ⟨w.heap.size,1,none⟩=some (.int .i64 v.num)/\w'.cell? ⟨w.heap.size,2,none⟩=some (.string v.str)/\w'.cell? ⟨w.heap.size,3,none⟩=some (.bool v.is)/\w'.cell? ⟨w.heap.size,4,none⟩=some (.int .i64 v.code))
    (first|go_keep|(go_split_ands;refine⟨?_,?_,?_,?_,?_⟩<;>(rw[more_cell (by simp)];assumption)))
    (first|(go_at_call 85;refine mB (value_bare _ _) ?_;intro l n))
   go_wp2_with(first|(go_at_call 86;refine(zAX _ _).mono ?_;rintro e w1 ⟨rfl,rfl⟩)|(go_at_call 33;refine mB (value_Name _ _) ?_;intro l n))
   all_goals go_ret
   ·exact⟨by rw[may0 ‹_›];rfl,bel⟩
   ·have h:(v.tag==1)=true:= ‹_›;exact⟨by rw[may1 ha hb ‹_›,if_pos (eq_of_beq h)];rfl,bel⟩
   ·have h1:(v.tag==1)=false:= ‹_›;have h:(v.tag==4)=true:= ‹_›;refine⟨?_,bel⟩;rw[may1 ha hb ‹_›,if_neg (ne_of_beq_false h1),if_pos (eq_of_beq h)];show Ending.returned (.bool (!(nameS v.code.toNat).toList.isEmpty))=_;rw[name_empty,Bool.not_not]
   ·have h1:(v.tag==1)=false:= ‹_›;have h:(v.tag==4)=false:= ‹_›;exact⟨by rw[may1 ha hb ‹_›,if_neg (ne_of_beq_false h1),if_neg (ne_of_beq_false h)];rfl,bel⟩
def zA5 (v:V):Int×Int:=if mayG v=false then (0,8) else if v.tag=4 then (0,v.code) else if v.tag=2 then (0,4) else if v.tag=3 then (if v.is then 10000 else 0,0) else (v.num,0)
def zA7 (v:V):Bool×Int:=((zA5 v).1 != 0,(zA5 v).2)
def truthI (b:Bool):Int:=if b then 1 else 0
theorem truthI_nonneg (b:Bool):0<=truthI b:=by cases b<;>decide
theorem truthI_le (b:Bool):truthI b<=1:=by cases b<;>decide
theorem truthI_mul (b:Bool):truthI b*10000=if b then 10000 else 0:=by cases b<;>rfl
theorem value_truth (b:Bool) (w:World):Calls prog 207 #[.bool b] w fun e w'=>e=.returned (.int .i64 (truthI b))/\w=w':=by
 cases b;all_goals
  go_enter func207,ntmps207;go_wp2;go_ret;exact⟨rfl,rfl⟩
theorem zBX (v:V) (w:World):Rt 148 #[(vG v)] w (.tuple #[.int .i64 (zA5 v).1,.int .i64 (zA5 v).2]):=by
 by_cases hm:mayG v=false
 have e:zA5 v=(0,8):=by simp[zA5,hm]
 rw[e]
 rotate_left
 have ha:mayG v=true:=by simpa using hm
 by_cases h4:v.tag=4
 ·have e:zA5 v=(0,v.code):=by simp[zA5,ha,h4]
  rw[e];replace h4:(v.tag==4)=true:=beq_iff_eq.2 h4;go_enter func148,ntmps148;go_wp2_with fail;refine(zB1 _ _).mono ?_;rintro e w1 ⟨rfl,hb⟩;obtain⟨l,n,rfl⟩:=zA0 hb;clear hb;go_wp2;go_quiet (fail);go_wp2
  go_ret2
  exact rb_
 by_cases h2:v.tag=2
 have e:zA5 v=(0,4):=by simp[zA5,ha,h2]
 rw[e];replace h4:(v.tag==4)=false:=beq_eq_false_iff_ne.2 h4;replace h2:(v.tag==2)=true:=beq_iff_eq.2 h2
 rotate_left
 by_cases h3:v.tag=3
 ·have e:zA5 v=(if v.is then 10000 else 0,0):=by simp[zA5,ha,h3]
  rw[e];replace h4:(v.tag==4)=false:=beq_eq_false_iff_ne.2 h4;replace h2:(v.tag==2)=false:=beq_eq_false_iff_ne.2 h2;replace h3:(v.tag==3)=true:=beq_iff_eq.2 h3;have hb0:=truthI_nonneg v.is;have hb1:=truthI_le v.is;rw[<- truthI_mul];go_enter func148,ntmps148;go_wp2_with fail;refine(zB1 v _).mono ?_;rintro e w1 ⟨rfl,hb⟩;obtain⟨l,n,rfl⟩:=zA0 hb;clear hb;go_wp2_with(go_at_call 207;refine(value_truth _ _).mono ?_;rintro e w1 ⟨rfl,rfl⟩)
  go_ret2
  exact rb_
 have e:zA5 v=(v.num,0):=by simp[zA5,ha,h4,h2,h3]
 rw[e];replace h4:(v.tag==4)=false:=beq_eq_false_iff_ne.2 h4;replace h2:(v.tag==2)=false:=beq_eq_false_iff_ne.2 h2;replace h3:(v.tag==3)=false:=beq_eq_false_iff_ne.2 h3;all_goals
  go_enter func148,ntmps148;go_wp2_with fail;refine(zB1 _ _).mono ?_;rintro e w1 ⟨rfl,hb⟩;obtain⟨l,n,rfl⟩:=zA0 hb;clear hb;go_wp2
  go_ret2
  exact rb_
theorem zBZ (v:V) (w:World):Rt 177 #[(vG v)] w (.tuple #[.bool (zA7 v).1,.int .i64 (zA7 v).2]):=by
 go_enter func177,ntmps177;go_wp2_with fail;refine(zBX _ _).mono ?_;rintro e w1 ⟨rfl,hb⟩;obtain⟨l,n,rfl⟩:=zA0 hb;clear hb;go_wp2
 go_ret2
 exact rb_
def zAF (x:Int):Int×Bool:=if x=minI∨x.tmod 10000≠0 then (0,false) else (x.tdiv 10000,true)
theorem zB0 (x:Int) (h0: -9223372036854775808<=x) (h1:x<=9223372036854775807) (w:World):Calls prog 152 #[.int .i64 x] w fun e w'=>e=.returned (.tuple #[.int .i64 (zAF x).1,.bool (zAF x).2])/\w=w':=by
 by_cases hx:x=minI
 have e:zAF x=(0,false):=by simp[zAF,hx]
 rw[e];replace hx:(x != minI)=false:=by simp[hx]
 clear h0 h1
 rotate_left
 by_cases hr:x.tmod 10000=0
 have e:zAF x=(x.tdiv 10000,true):=by simp[zAF,hx,hr]
 rw[e];replace hx:(x != minI)=true:=by simp[hx]
 replace hr:(x.tmod 10000 != 0)=false:=by simp[hr]
 rotate_left
 have e:zAF x=(0,false):=by simp[zAF,hr]
 rw[e];replace hx:(x != minI)=true:=by simp[hx]
 replace hr:(x.tmod 10000 != 0)=true:=by simp[hr]
 all_goals
  go_enter func152,ntmps152;go_wp2_with fail;refine(zAX _ _).mono ?_;rintro e w1 ⟨rfl,rfl⟩;go_wp2
  go_ret2
  exact⟨rfl,rfl⟩
end Go.Proofs.YtnccknhbplaieaaGreatDoor
