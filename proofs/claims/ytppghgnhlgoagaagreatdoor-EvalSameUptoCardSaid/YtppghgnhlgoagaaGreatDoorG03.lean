/- Parts. -/
import Derived.Test.YtppghgnhlgoagaaGreatDoorG02
import Derived.Deep.RegionWith
import Derived.Deep.RegionHeld3
import Derived.Laws.EntriesVeiled
import Derived.BigGuardPart
set_option linter.all false
set_option maxRecDepth 100000
set_option maxHeartbeats 4000000
namespace Go.Proofs.YtppghgnhlgoagaaGreatDoor
open Go Go.RowKit
def eqB (x y:V):Bool:=decide (x=y)
theorem eqlV (a b:Int) (s:ByteArray) (c:Bool) (d:Int) (a' b':Int) (s':ByteArray) (c':Bool) (d':Int) (w:World) :
  (binOp .eql 44 (.agg #[.int .i64 a,.int .i64 b,.string s,.bool c,.int .i64 d]) (.agg #[.int .i64 a',.int .i64 b',.string s',.bool c',.int .i64 d'])).run Tryz.prog w=.ok (.bool (eqB ⟨a,b,s,c,d⟩ ⟨a',b',s',c',d'⟩)) w:=by
 unfold eqB
 rw[run_eql_struct]
 have hs:(s.toList=s'.toList) ↔ s=s':=by
  rw[ByteArray.toList_eq,ByteArray.toList_eq]
  exact⟨fun h=>bytes_inj h,fun h=>by rw[h]⟩
 go_simp
 by_cases h1:a=a'<;>by_cases h2:b=b'<;>by_cases h3:s=s'<;>by_cases h4:c=c'<;>by_cases h5:d=d'<;>simp[h1,h2,h3,h4,h5,hs]
def mayG (v:V):Bool:=(decide (0<=v.tag)&&decide (v.tag<=4))&&eqB (bareG v) ⟨v.tag,0,⟨#[]⟩,false,0⟩&&(if v.tag=1 then v.num != minI else if v.tag=4 then isCode v.code else true)
theorem neqV (a b:Int) (s:ByteArray) (c:Bool) (d:Int) (a' b':Int) (s':ByteArray) (c':Bool) (d':Int) (w:World) :
  (binOp .neq 44 (.agg #[.int .i64 a,.int .i64 b,.string s,.bool c,.int .i64 d]) (.agg #[.int .i64 a',.int .i64 b',.string s',.bool c',.int .i64 d'])).run Tryz.prog w=.ok (.bool (!eqB ⟨a,b,s,c,d⟩ ⟨a',b',s',c',d'⟩)) w:=by
 unfold eqB
 rw[run_neq_struct]
 have hs:(s.toList=s'.toList) ↔ s=s':=by
  rw[ByteArray.toList_eq,ByteArray.toList_eq]
  exact⟨fun h=>bytes_inj h,fun h=>by rw[h]⟩
 go_simp
 by_cases h1:a=a'<;>by_cases h2:b=b'<;>by_cases h3:s=s'<;>by_cases h4:c=c'<;>by_cases h5:d=d'<;>simp[h1,h2,h3,h4,h5,hs]
theorem may0 {v:V} (h:(!eqB ⟨(bareG v).tag,(bareG v).num,(bareG v).str,(bareG v).is,(bareG v).code⟩ ⟨v.tag,0,⟨#[]⟩,false,0⟩)=true):mayG v=false:=by
 have h:(!eqB (bareG v) ⟨v.tag,0,⟨#[]⟩,false,0⟩)=true:=h
 simp at h
 simp[mayG,h]
theorem may1 {v:V} (h0:decide (v.tag<0)=false) (h4:decide (4<v.tag)=false) (h:(!eqB ⟨(bareG v).tag,(bareG v).num,(bareG v).str,(bareG v).is,(bareG v).code⟩ ⟨v.tag,0,⟨#[]⟩,false,0⟩)=false) :
  mayG v=(if v.tag=1 then v.num != minI else if v.tag=4 then isCode v.code else true):=by
 have h:(!eqB (bareG v) ⟨v.tag,0,⟨#[]⟩,false,0⟩)=false:=h
 simp at h h0 h4
 simp[mayG,h,h0,h4]
theorem zA8 (v:V) (w:World):Rt 43 #[(vG v)] w (.bool (mayG v)):=by
 by_cases h0:v.tag<0
 ·go_enter Tryz.func43,Tryz.ntmps43
  go_wp2
  go_quiet (fail)
  go_wp2
  go_ret
  exact⟨by simp[mayG,show ¬ 0<=v.tag by omega],bel⟩
 ·by_cases h1:4<v.tag
  ·go_enter Tryz.func43,Tryz.ntmps43
   go_wp2
   go_quiet (fail)
   go_wp2
   go_ret
   exact⟨by simp[mayG,show ¬ v.tag<=4 by omega],bel⟩
  ·have hq:=neqV
   have hd0:decide (v.tag<0)=false:=by simpa using h0
   have hd1:decide (4<v.tag)=false:=by simpa using h1
   clear h0 h1
   go_enter Tryz.func43,Tryz.ntmps43
   go_wp2
   go_region_held3 (fun w'=>w'.cell? ⟨w.heap.size,0,none⟩=some (.int .i64 v.tag)/\w'.cell? ⟨w.heap.size,1,none⟩=some (.int .i64 v.num)/\w'.cell? ⟨w.heap.size,2,none⟩=some (.string v.str)/\w'.cell? ⟨w.heap.size,3,none⟩=some (.bool v.is)/\w'.cell? ⟨w.heap.size,4,none⟩=some (.int .i64 v.code))
    (first|go_keep|(go_split_ands;refine⟨?_,?_,?_,?_,?_⟩<;>(rw[zCC (by simp)];assumption)))
    (first|(go_at_call 67;refine mB (value_bare _ _) ?_;intro l n))
   go_wp2_with(first|(go_at_call 56;refine(zAM _ _).mono ?_;rintro e w1 ⟨rfl,rfl⟩)|(go_at_call 34;refine mB (value_Name _ _) ?_;intro l n))
   all_goals go_ret
   ·exact⟨by rw[may0 ‹_›];rfl,bel⟩
   ·have h:(v.tag==1)=true:= ‹_›
    exact⟨by rw[may1 hd0 hd1 ‹_›,if_pos (eq_of_beq h)];rfl,bel⟩
   ·have h1:(v.tag==1)=false:= ‹_›
    have h:(v.tag==4)=true:= ‹_›
    refine⟨?_,bel⟩
    rw[may1 hd0 hd1 ‹_›,if_neg (ne_of_beq_false h1),if_pos (eq_of_beq h)]
    show Ending.returned (.bool (!(nameS v.code.toNat).toList.isEmpty))=_
    rw[name_empty,Bool.not_not]
   ·have h1:(v.tag==1)=false:= ‹_›
    have h:(v.tag==4)=false:= ‹_›
    exact⟨by rw[may1 hd0 hd1 ‹_›,if_neg (ne_of_beq_false h1),if_neg (ne_of_beq_false h)];rfl,bel⟩
def zA5 (v:V):Int×Int:=if mayG v=false then (0,8) else if v.tag=4 then (0,v.code) else if v.tag=2 then (0,4) else if v.tag=3 then (if v.is then 10000 else 0,0) else (v.num,0)
def zAX (v:V):Bool×Int:=((zA5 v).1 != 0,(zA5 v).2)
def truthI (b:Bool):Int:=if b then 1 else 0
theorem truthI_nonneg (b:Bool):0<=truthI b:=by cases b<;>decide
theorem truthI_le (b:Bool):truthI b<=1:=by cases b<;>decide
theorem truthI_mul (b:Bool):truthI b*10000=if b then 10000 else 0:=by cases b<;>rfl
theorem value_truth (b:Bool) (w:World):Calls Tryz.prog 54 #[.bool b] w fun e w'=>e=.returned (.int .i64 (truthI b))/\w=w':=by
 cases b
 all_goals
  go_enter Tryz.func54,Tryz.ntmps54
  go_wp2
  go_ret
  exact⟨rfl,rfl⟩
theorem zAG (v:V) (w:World):Rt 35 #[(vG v)] w (.tuple #[.int .i64 (zA5 v).1,.int .i64 (zA5 v).2]):=by
 by_cases hm:mayG v=false
 ·have e:zA5 v=(0,8):=by simp[zA5,hm]
  rw[e]
  go_enter Tryz.func35,Tryz.ntmps35
  go_wp2_with fail
  refine(zA8 _ _).mono ?_
  rintro e w1 ⟨rfl,hb⟩
  obtain⟨l,n,rfl⟩:=zA0 hb
  clear hb
  go_wp2
  go_ret2
  exact⟨rfl,bel⟩
 ·have hm':mayG v=true:=by simpa using hm
  by_cases h4:v.tag=4
  ·have e:zA5 v=(0,v.code):=by simp[zA5,hm',h4]
   rw[e]
   replace h4:(v.tag==4)=true:=beq_iff_eq.2 h4
   go_enter Tryz.func35,Tryz.ntmps35
   go_wp2_with fail
   refine(zA8 _ _).mono ?_
   rintro e w1 ⟨rfl,hb⟩
   obtain⟨l,n,rfl⟩:=zA0 hb
   clear hb
   go_wp2
   go_quiet (fail)
   go_wp2
   go_ret2
   exact⟨rfl,bel⟩
  ·by_cases h2:v.tag=2
   ·have e:zA5 v=(0,4):=by simp[zA5,hm',h2]
    rw[e]
    replace h4:(v.tag==4)=false:=beq_eq_false_iff_ne.2 h4
    replace h2:(v.tag==2)=true:=beq_iff_eq.2 h2
    go_enter Tryz.func35,Tryz.ntmps35
    go_wp2_with fail
    refine(zA8 _ _).mono ?_
    rintro e w1 ⟨rfl,hb⟩
    obtain⟨l,n,rfl⟩:=zA0 hb
    clear hb
    go_wp2
    go_ret2
    exact⟨rfl,bel⟩
   ·by_cases h3:v.tag=3
    ·have e:zA5 v=(if v.is then 10000 else 0,0):=by simp[zA5,hm',h3]
     rw[e]
     replace h4:(v.tag==4)=false:=beq_eq_false_iff_ne.2 h4
     replace h2:(v.tag==2)=false:=beq_eq_false_iff_ne.2 h2
     replace h3:(v.tag==3)=true:=beq_iff_eq.2 h3
     have hb0:=truthI_nonneg v.is
     have hb1:=truthI_le v.is
     rw[<- truthI_mul]
     go_enter Tryz.func35,Tryz.ntmps35
     go_wp2_with fail
     refine(zA8 v _).mono ?_
     rintro e w1 ⟨rfl,hb⟩
     obtain⟨l,n,rfl⟩:=zA0 hb
     clear hb
     go_wp2_with(go_at_call 54;refine(value_truth _ _).mono ?_;rintro e w1 ⟨rfl,rfl⟩)
     go_ret2
     exact⟨rfl,bel⟩
    ·have e:zA5 v=(v.num,0):=by simp[zA5,hm',h4,h2,h3]
     rw[e]
     replace h4:(v.tag==4)=false:=beq_eq_false_iff_ne.2 h4
     replace h2:(v.tag==2)=false:=beq_eq_false_iff_ne.2 h2
     replace h3:(v.tag==3)=false:=beq_eq_false_iff_ne.2 h3
     go_enter Tryz.func35,Tryz.ntmps35
     go_wp2_with fail
     refine(zA8 _ _).mono ?_
     rintro e w1 ⟨rfl,hb⟩
     obtain⟨l,n,rfl⟩:=zA0 hb
     clear hb
     go_wp2
     go_ret2
     exact⟨rfl,bel⟩
theorem zBI (v:V) (w:World):Rt 151 #[(vG v)] w (.tuple #[.bool (zAX v).1,.int .i64 (zAX v).2]):=by
 go_enter Tryz.func151,Tryz.ntmps151
 go_wp2_with fail
 refine(zAG _ _).mono ?_
 rintro e w1 ⟨rfl,hb⟩
 obtain⟨l,n,rfl⟩:=zA0 hb
 clear hb
 go_wp2
 go_ret2
 exact⟨rfl,bel⟩
def zAL (x:Int):Int×Bool:=if x=minI∨x.tmod 10000≠0 then (0,false) else (x.tdiv 10000,true)
theorem zAs (x:Int) (h0: -9223372036854775808<=x) (h1:x<=9223372036854775807) (w:World):Calls Tryz.prog 134 #[.int .i64 x] w fun e w'=>e=.returned (.tuple #[.int .i64 (zAL x).1,.bool (zAL x).2])/\w=w':=by
 by_cases hx:x=minI
 ·have e:zAL x=(0,false):=by simp[zAL,hx]
  rw[e]
  replace hx:(x != minI)=false:=by simp[hx]
  clear h0 h1
  go_enter Tryz.func134,Tryz.ntmps134
  go_wp2_with fail
  refine(zAM _ _).mono ?_
  rintro e w1 ⟨rfl,rfl⟩
  go_wp2
  go_ret2
  exact⟨rfl,rfl⟩
 ·by_cases hr:x.tmod 10000=0
  ·have e:zAL x=(x.tdiv 10000,true):=by simp[zAL,hx,hr]
   rw[e]
   replace hx:(x != minI)=true:=by simp[hx]
   replace hr:(x.tmod 10000 != 0)=false:=by simp[hr]
   go_enter Tryz.func134,Tryz.ntmps134
   go_wp2_with fail
   refine(zAM _ _).mono ?_
   rintro e w1 ⟨rfl,rfl⟩
   go_wp2
   go_ret2
   exact⟨rfl,rfl⟩
  ·have e:zAL x=(0,false):=by simp[zAL,hr]
   rw[e]
   replace hx:(x != minI)=true:=by simp[hx]
   replace hr:(x.tmod 10000 != 0)=true:=by simp[hr]
   go_enter Tryz.func134,Tryz.ntmps134
   go_wp2_with fail
   refine(zAM _ _).mono ?_
   rintro e w1 ⟨rfl,rfl⟩
   go_wp2
   go_ret2
   exact⟨rfl,rfl⟩
def zCB (r c:Int):Bool:=(decide (1<=r)&&decide (r<=4096))&&(decide (1<=c)&&decide (c<=256))
def rectB (t l b r:Int):Bool:=(zCB t l&&zCB b r)&&(decide (t<=b)&&decide (l<=r))
def inB (t l b r row col:Int):Bool:=(decide (t<=row)&&decide (row<=b))&&(decide (l<=col)&&decide (col<=r))
def befB (r c r' c':Int):Bool:=if r=r' then decide (c<c') else decide (r<r')
theorem addr_May (r c:Int) (w:World):Rt 78 #[.agg #[.int .i64 r,.int .i64 c]] w (.bool (zCB r c)):=by
 go_enter Tryz.func78,Tryz.ntmps78
 go_wp2
 all_goals go_ret
 all_goals refine⟨congrArg (fun b=>Ending.returned (Value.bool b)) (?_:_=zCB _ _),bel⟩
 all_goals simp_all[zCB]
 all_goals omega
theorem addr_first (t l b r:Int) (w:World):Rt 100 #[.agg #[.int .i64 t,.int .i64 l,.int .i64 b,.int .i64 r]] w (.agg #[.int .i64 t,.int .i64 l]):=by
 go_enter Tryz.func100,Tryz.ntmps100
 go_wp2
 all_goals go_returns
 all_goals exact⟨rfl,bel⟩
theorem addr_last (t l b r:Int) (w:World):Rt 101 #[.agg #[.int .i64 t,.int .i64 l,.int .i64 b,.int .i64 r]] w (.agg #[.int .i64 b,.int .i64 r]):=by
 go_enter Tryz.func101,Tryz.ntmps101
 go_wp2
 all_goals go_returns
 all_goals exact⟨rfl,bel⟩
theorem zAh (t l b r row col:Int) (w:World):Rt 72 #[.agg #[.int .i64 t,.int .i64 l,.int .i64 b,.int .i64 r],.agg #[.int .i64 row,.int .i64 col]] w (.bool (inB t l b r row col)):=by
 go_enter Tryz.func72,Tryz.ntmps72
 go_wp2
 all_goals go_ret
 all_goals refine⟨congrArg (fun b=>Ending.returned (Value.bool b)) (?_:_=inB _ _ _ _ _ _),bel⟩
 all_goals simp_all[inB]
 all_goals omega
theorem zBb (r c r' c':Int) (w:World):Rt 73 #[.agg #[.int .i64 r,.int .i64 c],.agg #[.int .i64 r',.int .i64 c']] w (.bool (befB r c r' c')):=by
 go_enter Tryz.func73,Tryz.ntmps73
 go_wp2
 all_goals go_ret
 all_goals refine⟨congrArg (fun b=>Ending.returned (Value.bool b)) (?_:_=befB _ _ _ _),bel⟩
 all_goals simp_all[befB]
open Go.Lib renaming hid->zh
inductive Doer where
 | plain (k:Nat)
 | truths (k:Nat)
 | tagged (t:Int)
def DoOK (w:World) (f:Value):Doer->Prop
 | .plain k=>f=.func (.func k) #[] #[]
 | .truths k=>∃ p,f=.func (.func 152) #[] #[.pointer (some ⟨p,0,none⟩)]/\w.cell? ⟨p,0,none⟩=some (.func (.func k) #[] #[])
 | .tagged t=>∃ p,f=.func (.func 155) #[] #[.pointer (some ⟨p,0,none⟩)]/\w.cell? ⟨p,0,none⟩=some (.int .i64 t)/\OneCell w p
def OwnE (w:World) (v:Value) (x y:Int) (d:Doer):Prop:=∃ pl pm pd f,v=.agg #[.func (.func 149) #[] #[.pointer (some ⟨pl,0,none⟩),.pointer (some ⟨pm,0,none⟩)],.func (.func 150) #[] #[.pointer (some ⟨pd,0,none⟩)]] /\
 w.cell? ⟨pl,0,none⟩=some (.int .i64 x)/\w.cell? ⟨pm,0,none⟩=some (.int .i64 y)/\w.cell? ⟨pd,0,none⟩=some f/\DoOK w f d
theorem DoOK.keeps {w w':World} {f:Value} {d:Doer} (h:DoOK w f d) (hk:Keeps w w'):DoOK w' f d:=by
 cases d with
 | plain k=>exact h
 | truths k=>obtain⟨p,h1,h2⟩:=h;exact⟨p,h1,hk.cell _ _ _ h2⟩
 | tagged t=>obtain⟨p,h1,h2,h3⟩:=h;exact⟨p,h1,hk.cell _ _ _ h2,hk.one _ h3⟩
theorem OwnE.keeps {w w':World} {v:Value} {x y:Int} {d:Doer} (h:OwnE w v x y d) (hk:Keeps w w'):OwnE w' v x y d:=by
 obtain⟨pl,pm,pd,f,e,h1,h2,h3,h4⟩:=h
 exact⟨pl,pm,pd,f,e,hk.cell _ _ _ h1,hk.cell _ _ _ h2,hk.cell _ _ _ h3,h4.keeps hk⟩
theorem funcs_singles (x y:Int) (fn:Fn) (cap:Array Value) (d:Doer) (w:World) (hd:DoOK w (.func fn #[] cap) d):Calls Tryz.prog 115 #[.int .i64 x,.int .i64 y,.func fn #[] cap] w fun e w'=>(∃ v,e=.returned v/\OwnE w' v x y d)/\Below w.heap.size w w':=by
 have HD:=zh hd
 clear hd
 go_enter Tryz.func115,Tryz.ntmps115
 go_wp2
 go_returns
 refine⟨⟨_,rfl,_,_,_,_,rfl,?_,?_,?_,HD.out.keeps kps⟩,bel⟩
 all_goals go_simp
theorem funcs_truths (k:Nat) (w:World):Calls Tryz.prog 117 #[.func (.func k) #[] #[]] w fun e w'=>(∃ fn cap,e=.returned (.func fn #[] cap)/\DoOK w' (.func fn #[] cap) (.truths k))/\Below w.heap.size w w':=by
 go_enter Tryz.func117,Tryz.ntmps117
 go_wp2
 go_ret
 refine⟨⟨_,_,rfl,_,rfl,?_⟩,bel⟩
 go_simp
theorem funcs_is (t:Int) (w:World):Calls Tryz.prog 123 #[.int .i64 t] w fun e w'=>(∃ v,e=.returned v/\OwnE w' v 1 1 (.tagged t))/\Below w.heap.size w w':=by
 go_enter Tryz.func123,Tryz.ntmps123
 go_wp2
 go_returns
 refine⟨⟨_,rfl,_,_,_,_,rfl,?_,?_,?_,w.heap.size,rfl,?_,(show Keeps (w.alloc (.cells #[.int .i64 t] 41)) _ from kps).one _ (one_alloc _ _ _)⟩,bel⟩
 all_goals go_simp
def zAz (s:ByteArray):Option (Int×Int×Doer) :=
 if (⟨#[65,83,75]⟩:ByteArray)=s then some (1,1,.plain 128) else
 if (⟨#[67,72,79,79,83,69]⟩:ByteArray)=s then some (2,16,.plain 127) else
 if (⟨#[69,82,82]⟩:ByteArray)=s then some (1,1,.plain 126) else
 if (⟨#[69,82,82,78,79]⟩:ByteArray)=s then some (1,1,.plain 125) else
 if (⟨#[84,89,80,69]⟩:ByteArray)=s then some (1,1,.plain 124) else
 if (⟨#[73,83,66,79,79,76]⟩:ByteArray)=s then some (1,1,.tagged 3) else
 if (⟨#[73,83,84,69,88,84]⟩:ByteArray)=s then some (1,1,.tagged 2) else
 if (⟨#[73,83,78,85,77]⟩:ByteArray)=s then some (1,1,.tagged 1) else
 if (⟨#[73,83,66,76,65,78,75]⟩:ByteArray)=s then some (1,1,.tagged 0) else
 if (⟨#[73,83,69,82,82]⟩:ByteArray)=s then some (1,1,.tagged 4) else
 if (⟨#[73,70,69,82,82]⟩:ByteArray)=s then some (2,2,.plain 122) else
 if (⟨#[78,79,84]⟩:ByteArray)=s then some (1,1,.truths 121) else
 if (⟨#[88,79,82]⟩:ByteArray)=s then some (1,16,.truths 120) else
 if (⟨#[79,82]⟩:ByteArray)=s then some (1,16,.truths 119) else
 if (⟨#[65,78,68]⟩:ByteArray)=s then some (1,16,.truths 118) else
 if (⟨#[73,70]⟩:ByteArray)=s then some (2,3,.plain 116) else none
def isOwn (s:ByteArray):Bool :=
 if (⟨#[65,83,75]⟩:ByteArray)=s then true else
 if (⟨#[67,72,79,79,83,69]⟩:ByteArray)=s then true else
 if (⟨#[69,82,82]⟩:ByteArray)=s then true else
 if (⟨#[69,82,82,78,79]⟩:ByteArray)=s then true else
 if (⟨#[84,89,80,69]⟩:ByteArray)=s then true else
 if (⟨#[73,83,66,79,79,76]⟩:ByteArray)=s then true else
 if (⟨#[73,83,84,69,88,84]⟩:ByteArray)=s then true else
 if (⟨#[73,83,78,85,77]⟩:ByteArray)=s then true else
 if (⟨#[73,83,66,76,65,78,75]⟩:ByteArray)=s then true else
 if (⟨#[73,83,69,82,82]⟩:ByteArray)=s then true else
 if (⟨#[73,70,69,82,82]⟩:ByteArray)=s then true else
 if (⟨#[78,79,84]⟩:ByteArray)=s then true else
 if (⟨#[88,79,82]⟩:ByteArray)=s then true else
 if (⟨#[79,82]⟩:ByteArray)=s then true else
 if (⟨#[65,78,68]⟩:ByteArray)=s then true else
 if (⟨#[73,70]⟩:ByteArray)=s then true else false
def OwnInv (w0:World) (b:Nat) (L:List (ByteArray×Value)) (w:World):Prop:=Below w0.heap.size w0 w/\w0.heap.size<=b/\w.heap[b]? =some (.map (ents L 0).toArray L.length) /\
 (∀ s v,getU s L=some v->∃ x y d,zAz s=some (x,y,d)/\OwnE w v x y d)/\(L.map (·.1)).Nodup
theorem ups_keys (k:ByteArray) (v:Value) (L:List (ByteArray×Value)):(k∈L.map (·.1)->(ups k v L).map (·.1)=L.map (·.1))/\(¬ k∈L.map (·.1)->(ups k v L).map (·.1)=L.map (·.1)++[k]):=by
 induction L with
 | nil=>exact⟨(fun h=>by simp at h),(fun _=>rfl)⟩
 | cons p L ih =>
   unfold ups
   by_cases h:p.1=k
   ·rw[if_pos h]
    exact⟨fun _=>by simp[h],fun hn=>absurd (by simp[h]) hn⟩
   ·rw[if_neg h]
    refine⟨fun hm=> ?_,fun hn=> ?_⟩
    ·have hm':k∈L.map (·.1):=by
      rw[List.map_cons,List.mem_cons] at hm
      exact hm.elim (fun e=>absurd e.symm h) id
     rw[List.map_cons,ih.1 hm'];rfl
    ·have hn': ¬ k∈L.map (·.1):=fun hm=>hn (List.mem_cons_of_mem _ hm)
     rw[List.map_cons,ih.2 hn'];rfl
theorem ups_nodup (k:ByteArray) (v:Value) {L:List (ByteArray×Value)} (h:(L.map (·.1)).Nodup):((ups k v L).map (·.1)).Nodup:=by
 by_cases hm:k∈L.map (·.1)
 ·rw[(ups_keys k v L).1 hm];exact h
 ·rw[(ups_keys k v L).2 hm]
  exact List.nodup_append.2 ⟨h,by simp,fun a ha b hb e=>by simp at hb;subst hb;subst e;exact hm ha⟩
theorem ownInv_start (w:World):OwnInv w w.heap.size [] (w.alloc (.map #[] 0)) :=
 ⟨(Below.refl _ _).alloc (Nat.le_refl _) _,Nat.le_refl _,by rw[(MapKept.heap_alloc w _).1];rfl,(fun s v h=>by cases h),List.nodup_nil⟩
theorem setMap_self {w:World} {b:Nat} {L:List (ByteArray×Value)} (h:w.heap[b]? =some (.map (ents L 0).toArray L.length)):zAI w b L=w:=by
 have hlt:b<w.heap.size:=(Array.getElem?_eq_some_iff.1 h).1
 have e:w.heap.setIfInBounds b (.map (ents L 0).toArray L.length)=w.heap:=by
  apply Array.ext_getElem?
  intro i
  rw[Array.getElem?_setIfInBounds]
  by_cases hi:b=i
  ·subst hi;rw[if_pos rfl,if_pos hlt,h]
  ·rw[if_neg hi]
 unfold zAI
 rw[e]
theorem keeps_setMap {w:World} {b:Nat} {L L':List (ByteArray×Value)} (h:w.heap[b]? =some (.map (ents L 0).toArray L.length)):Keeps w (zAI w b L'):=by
 refine⟨fun n i v hv=> ?_,fun n hn=>⟨by simpa using hn.1,fun i v hv=> ?_⟩⟩
 ·by_cases e:b=n
  ·subst e
   unfold World.cell? at hv
   rw[h] at hv
   cases hv
  ·rw[setMap_cell e];exact hv
 ·by_cases e:b=n
  ·subst e
   unfold World.cell? at hv
   rw[setMap_at (Array.getElem?_eq_some_iff.1 h).1] at hv
   cases hv
  ·rw[setMap_cell e] at hv;exact hn.2 i v hv
theorem OwnInv.below {w0 w w1:World} {b:Nat} {L:List (ByteArray×Value)} (h:OwnInv w0 b L w) (hb:Below w.heap.size w w1):OwnInv w0 b L w1:=by
 obtain⟨h1,h2,h3,h4,h5⟩:=h
 have hlt:b<w.heap.size:=(Array.getElem?_eq_some_iff.1 h3).1
 refine⟨h1.trans (hb.mono h1.size),h2,(hb.block b hlt).trans h3,fun s v hv=> ?_,h5⟩
 obtain⟨x,y,d,e,he⟩:=h4 s v hv
 exact⟨x,y,d,e,he.keeps (zAr hb)⟩
theorem OwnInv.store {w0 w:World} {b:Nat} {L:List (ByteArray×Value)} {v:Value} {x y:Int} {d:Doer} (h:OwnInv w0 b L w) (s:ByteArray) (hE:OwnE w v x y d) (hs:zAz s=some (x,y,d)) :
  (Instr.mapUpdate 79 (.map (some b)) (.string s) v).run Tryz.prog w=.ok () (zAI w b (ups s v L))/\OwnInv w0 b (ups s v L) (zAI w b (ups s v L)):=by
 obtain⟨h1,h2,h3,h4,h5⟩:=h
 have hlt:b<w.heap.size:=(Array.getElem?_eq_some_iff.1 h3).1
 have hk:Keeps w (zAI w b (ups s v L)):=keeps_setMap h3
 refine⟨?_,zBU h1 h2,h2,setMap_at hlt,fun s' v' hv=> ?_,ups_nodup s v h5⟩
 ·have:=run_storeS (P:=Tryz.prog) Tryz.underlying9 Tryz.underlying79 w hlt s v L
  rw[setMap_self h3] at this
  exact this
 ·rw[getU_ups] at hv
  by_cases e:s=s'
  ·subst e
   rw[if_pos rfl] at hv
   cases hv
   exact⟨x,y,d,hs,hE.keeps hk⟩
  ·rw[if_neg e] at hv
   obtain⟨x',y',d',e',he⟩:=h4 s' v' hv
   exact⟨x',y',d',e',he.keeps hk⟩
theorem isSome_ups (k s:ByteArray) (v:Value) (L:List (ByteArray×Value)):(getU s (ups k v L)).isSome=if k=s then true else (getU s L).isSome:=by
 rw[getU_ups]
 by_cases h:k=s<;>simp[h]
section
variable {ops:Array Oper} {rest:List Oper} {a:Act} {Q:Exit->Act->World->Prop}
theorem wpList_insI {w0 w:World} {b:Nat} {L:List (ByteArray×Value)} {v:Value} {x y:Int} {d:Doer} (h:OwnInv w0 b L w) (hE:OwnE w v x y d) (m k u:Operand) {ty:TypeId} {pos:String} {after:Array Edge} (s:ByteArray)
  (hm:a.eval m=.map (some b)) (hk:a.eval k=.string s) (hu:a.eval u=v) (hs:zAz s=some (x,y,d)) (hK:∀ w',OwnInv w0 b (ups s v L) w'->wpList Tryz.prog ops Q rest a w') :
  wpList Tryz.prog ops Q (⟨none,.insert 79 m k u,ty,pos,after,none⟩::rest) a w:=by
 refine wpList_plain rfl fun K' hK'=> ?_
 have h1:=(h.store s hE hs).1
 have h2:=(h.store s hE hs).2
 unfold Oper.wp
 simp[execOp,hm,hk,hu,h1,Result.andThen]
 exact hK' _ _ (hK _ h2)
end
def OwnSays (w:World) (e:Ending) (w':World):Prop:=∃ b L,e=.returned (.map (some b))/\OwnInv w b L w'/\∀ s,(getU s L).isSome=isOwn s
theorem funcs_own (w:World):Calls Tryz.prog 88 #[] w fun e w'=>OwnSays w e w':=by
 have hT:=ownInv_start w
 have hmk:= @run_makeMap Tryz.prog
 go_enter Tryz.func88,Tryz.ntmps88
 go_wp2_with(first
  | (go_at_call 115;refine(funcs_singles _ _ _ _ _ _ hF).mono ?_;clear hF;rintro e w1 ⟨⟨v,rfl,hE⟩,hb⟩;replace hT:=hT.below hb;clear hb)
  | (go_at_call 115;refine(funcs_singles _ _ _ _ (.plain _) _ rfl).mono ?_;rintro e w1 ⟨⟨v,rfl,hE⟩,hb⟩;replace hT:=hT.below hb;clear hb)
  | (go_at_call 123;refine(funcs_is _ _).mono ?_;rintro e w1 ⟨⟨v,rfl,hE⟩,hb⟩;replace hT:=hT.below hb;clear hb)
  | (go_at_call 117;refine(funcs_truths _ _).mono ?_;rintro e w1 ⟨⟨fn,cap,rfl,hF⟩,hb⟩;replace hT:=hT.below hb;clear hb)
  | (refine wpList_insI hT hE _ _ _ _ rfl rfl rfl (by kernel_rfl) ?_;clear hT hE;intro w2 hT))
 go_ret
 refine⟨_,_,rfl,hT,fun s=> ?_⟩
 simp only[isSome_ups]
 rfl
theorem ref01_May (x:Int) (w:World):Rt 28 #[.int .i64 x] w (.bool (decide (-9223372036854775807<=x))):=by
 go_enter Tryz.func28,Tryz.ntmps28
 go_wp2
 go_ret
 exact⟨rfl,bel⟩
theorem empty_iff (s:ByteArray):(s=⟨#[]⟩)=(s.toList.isEmpty=true):=by
 rw[ByteArray.toList_eq]
 refine propext ⟨fun h=>by subst h;rfl,fun h=>bytes_inj (by simpa using h)⟩
theorem ref02_May (v:V) (hlo: -9223372036854775808<=v.num) (w:World):Rt 15 #[(vG v)] w (.bool (mayG v)):=by
 obtain⟨a,b,s,c,d⟩:=v
 dsimp only[vG]
 go_enter Tryz.func15,Tryz.ntmps15
 go_wp2_with(go_at_call 28;refine mB (ref01_May _ _) ?_;intro l n)
 all_goals go_ret
 all_goals refine⟨congrArg (fun b=>Ending.returned (Value.bool b)) (?_:_=mayG _),bel⟩
 all_goals have he:=empty_iff s
 all_goals simp_all[mayG,eqB,bareG,isCode,minI]
 ·omega
 ·omega
 ·rw[Bool.eq_iff_iff]
  simp
  omega
def projN:Value->Option (Int×Int)
 | .agg ⟨[.int _ a,.int _ b,_]⟩=>some (a,b)
 | _=>none
def projNF:Value->Option Value
 | .agg ⟨[_,_,f]⟩=>some f
 | _=>none
def zC4 (s:ByteArray):Option (Int×Int) :=
 if (⟨#[79,68,68]⟩:ByteArray)=s then some (1,1) else
 if (⟨#[67,76,65,77,80]⟩:ByteArray)=s then some (3,3) else
 if (⟨#[70,65,67,84]⟩:ByteArray)=s then some (1,1) else
 if (⟨#[76,67,77]⟩:ByteArray)=s then some (1,16) else
 if (⟨#[71,67,68]⟩:ByteArray)=s then some (1,16) else
 if (⟨#[83,81,82,84]⟩:ByteArray)=s then some (1,1) else
 if (⟨#[80,79,87,69,82]⟩:ByteArray)=s then some (2,2) else
 if (⟨#[81,85,79,84]⟩:ByteArray)=s then some (2,2) else
 if (⟨#[77,79,68]⟩:ByteArray)=s then some (2,2) else
 if (⟨#[67,69,73,76]⟩:ByteArray)=s then some (2,2) else
 if (⟨#[70,76,79,79,82]⟩:ByteArray)=s then some (2,2) else
 if (⟨#[82,79,85,78,68]⟩:ByteArray)=s then some (1,2) else
 if (⟨#[84,82,85,78,67]⟩:ByteArray)=s then some (1,2) else
 if (⟨#[73,78,84]⟩:ByteArray)=s then some (1,1) else
 if (⟨#[83,73,71,78]⟩:ByteArray)=s then some (1,1) else
 if (⟨#[65,66,83]⟩:ByteArray)=s then some (1,1) else none
def numFn (p1 p2 p3:Nat) (s:ByteArray):Option Value :=
 if (⟨#[79,68,68]⟩:ByteArray)=s then some (.func (.func 178) #[] #[]) else
 if (⟨#[67,76,65,77,80]⟩:ByteArray)=s then some (.func (.func 177) #[] #[]) else
 if (⟨#[70,65,67,84]⟩:ByteArray)=s then some (.func (.func 176) #[] #[]) else
 if (⟨#[76,67,77]⟩:ByteArray)=s then some (.func (.func 175) #[] #[]) else
 if (⟨#[71,67,68]⟩:ByteArray)=s then some (.func (.func 174) #[] #[]) else
 if (⟨#[83,81,82,84]⟩:ByteArray)=s then some (.func (.func 172) #[] #[]) else
 if (⟨#[80,79,87,69,82]⟩:ByteArray)=s then some (.func (.func 241) #[] #[.pointer (some ⟨p3,0,none⟩)]) else
 if (⟨#[81,85,79,84]⟩:ByteArray)=s then some (.func (.func 170) #[] #[]) else
 if (⟨#[77,79,68]⟩:ByteArray)=s then some (.func (.func 168) #[] #[]) else
 if (⟨#[67,69,73,76]⟩:ByteArray)=s then some (.func (.func 167) #[] #[]) else
 if (⟨#[70,76,79,79,82]⟩:ByteArray)=s then some (.func (.func 165) #[] #[]) else
 if (⟨#[82,79,85,78,68]⟩:ByteArray)=s then some (.func (.func 241) #[] #[.pointer (some ⟨p2,0,none⟩)]) else
 if (⟨#[84,82,85,78,67]⟩:ByteArray)=s then some (.func (.func 241) #[] #[.pointer (some ⟨p1,0,none⟩)]) else
 if (⟨#[73,78,84]⟩:ByteArray)=s then some (.func (.func 159) #[] #[]) else
 if (⟨#[83,73,71,78]⟩:ByteArray)=s then some (.func (.func 158) #[] #[]) else
 if (⟨#[65,66,83]⟩:ByteArray)=s then some (.func (.func 157) #[] #[]) else none
def NumFound (s:ByteArray) (x y:Int) (e:Ending) (w':World):Prop:=∃ fn first cap,e=.returned (.tuple #[.agg #[.int .i64 x,.int .i64 y,.func fn first cap],.bool true]) /\
 ∃ p1 p2 p3,numFn p1 p2 p3 s=some (.func fn first cap)/\w'.cell? ⟨p1,0,none⟩=some (.func (.func 163) #[] #[])/\w'.cell? ⟨p2,0,none⟩=some (.func (.func 164) #[] #[])/\w'.cell? ⟨p3,0,none⟩=some (.func (.func 171) #[] #[])
def NumMissed (e:Ending):Prop:=e=.returned (.tuple #[.agg #[.int .i64 0,.int .i64 0,.nilFunc],.bool false])
def NumPost (s:ByteArray) (e:Ending) (w':World):Prop:=(∃ x y,zC4 s=some (x,y)/\NumFound s x y e w')∨(zC4 s=none/\NumMissed e)
theorem nums_find0 (s:ByteArray) (w:World):Calls Tryz.prog 129 #[.string s] w fun e w'=>NumPost s e w'/\Below w.heap.size w w':=by
 have hmk:∀ w,(Instr.makeMap 234 none).run Tryz.prog w=.ok (.map (some w.heap.size)) (zAI (w.alloc (.map #[] 0)) w.heap.size []):=fun w=>run_makeMapS w _
 have hst:∀ (w:World) (b:Nat) (L:List (ByteArray×Value)) (s:ByteArray) (v:Value),b<w.heap.size->(Instr.mapUpdate 234 (.map (some b)) (.string s) v).run Tryz.prog (zAI w b L)=.ok () (zAI w b (ups s v L)):=fun w b L s v h=>run_storeS Tryz.underlying9 Tryz.underlying234 w h s v L
 go_enter Tryz.func129,Tryz.ntmps129
 go_wp2_with(first|go_in|(at_lookup;refine wpList_lookN rfl 234 _ _ rfl 9 197 Tryz.underlying9 Tryz.underlying234 (.agg #[.int .i64 0,.int .i64 0,.nilFunc]) (fun w=>by kernel_rfl) _ _ _ rfl (by simp) _ rfl ?_ ?_ ?_))
 ·repeat(with_reducible refine AllV.ups ?_ (funN _ _ _ _ _))
  exact AllV.nil _
 ·intro x y fn first cap hv
  go_wp2
  go_returns
  refine⟨.inl ⟨x,y,?_,fn,first,cap,rfl,w.heap.size+1+1,w.heap.size+1+1+1,w.heap.size+1+1+1+1,?_,?_,?_,?_⟩,?_⟩
  ·have h:=congrArg (fun o=>o.bind projN) hv.out
   simp only[zCL,zCK] at h
   exact h
  ·have h:=congrArg (fun o=>o.bind projNF) hv.out
   simp only[zCL,zCK] at h
   exact h
  ·clear hv;go_simp
  ·clear hv;go_simp
  ·clear hv;go_simp
  ·refine zBU ?_ (by simp)
   exact bel
 ·intro hv
  go_wp2
  go_returns
  refine⟨.inr ⟨?_,rfl⟩,?_⟩
  ·have h:=congrArg (fun o=>o.bind projN) hv.out
   simp only[zCL,zCK] at h
   exact h
  ·refine zBU ?_ (by simp)
   exact bel
theorem zC0 (s:ByteArray) (x y:Int) (h:zC4 s=some (x,y)) (w:World):Calls Tryz.prog 129 #[.string s] w fun e w'=>NumFound s x y e w'/\Below w.heap.size w w' :=
 (nums_find0 s w).mono fun e w' ⟨hp,hb⟩=>by
  rcases hp with ⟨x',y',h',hf⟩|⟨h',_⟩
  ·rw[h] at h';cases h';exact⟨hf,hb⟩
  ·rw[h] at h';cases h'
theorem nums_find_no (s:ByteArray) (h:zC4 s=none) (w:World):Calls Tryz.prog 129 #[.string s] w fun e w'=>NumMissed e/\Below w.heap.size w w' :=
 (nums_find0 s w).mono fun e w' ⟨hp,hb⟩=>by
  rcases hp with ⟨x',y',h',hf⟩|⟨_,hm⟩
  ·rw[h] at h';cases h'
  ·exact⟨hm,hb⟩
def projA:Value->Option (ByteArray×Int×Int)
 | .agg ⟨[.string s,.int _ a,.int _ b,_]⟩=>some (s,a,b)
 | _=>none
def projAF:Value->Option Value
 | .agg ⟨[_,_,_,f]⟩=>some f
 | _=>none
def zB4 (s:ByteArray):Option (ByteArray×Int×Int) :=
 if (⟨#[67,79,76,83]⟩:ByteArray)=s then some (⟨#[114]⟩,1,1) else
 if (⟨#[82,79,87,83]⟩:ByteArray)=s then some (⟨#[114]⟩,1,1) else
 if (⟨#[74,79,73,78]⟩:ByteArray)=s then some (⟨#[118,120]⟩,2,16) else
 if (⟨#[76,65,82,71,69]⟩:ByteArray)=s then some (⟨#[114,118]⟩,2,2) else
 if (⟨#[73,78,68,69,88]⟩:ByteArray)=s then some (⟨#[114,118,118]⟩,3,3) else
 if (⟨#[76,79,79,75,85,80]⟩:ByteArray)=s then some (⟨#[118,114,114]⟩,3,3) else
 if (⟨#[77,65,84,67,72]⟩:ByteArray)=s then some (⟨#[118,114]⟩,2,2) else
 if (⟨#[83,85,77,73,70]⟩:ByteArray)=s then some (⟨#[114,118,114]⟩,3,3) else
 if (⟨#[67,79,85,78,84,73,70]⟩:ByteArray)=s then some (⟨#[114,118]⟩,2,2) else
 if (⟨#[66,76,65,78,75,83]⟩:ByteArray)=s then some (⟨#[114]⟩,1,1) else
 if (⟨#[67,79,85,78,84,65]⟩:ByteArray)=s then some (⟨#[120]⟩,1,16) else
 if (⟨#[67,79,85,78,84]⟩:ByteArray)=s then some (⟨#[120]⟩,1,16) else
 if (⟨#[77,69,68,73,65,78]⟩:ByteArray)=s then some (⟨#[120]⟩,1,16) else
 if (⟨#[65,86,71]⟩:ByteArray)=s then some (⟨#[120]⟩,1,16) else
 if (⟨#[77,65,88]⟩:ByteArray)=s then some (⟨#[120]⟩,1,16) else
 if (⟨#[77,73,78]⟩:ByteArray)=s then some (⟨#[120]⟩,1,16) else
 if (⟨#[80,82,79,68]⟩:ByteArray)=s then some (⟨#[120]⟩,1,16) else
 if (⟨#[83,85,77]⟩:ByteArray)=s then some (⟨#[120]⟩,1,16) else none
def aggFn (p:Nat) (s:ByteArray):Option Value :=
 if (⟨#[67,79,76,83]⟩:ByteArray)=s then some (.func (.func 224) #[] #[]) else
 if (⟨#[82,79,87,83]⟩:ByteArray)=s then some (.func (.func 221) #[] #[]) else
 if (⟨#[74,79,73,78]⟩:ByteArray)=s then some (.func (.func 220) #[] #[]) else
 if (⟨#[76,65,82,71,69]⟩:ByteArray)=s then some (.func (.func 219) #[] #[]) else
 if (⟨#[73,78,68,69,88]⟩:ByteArray)=s then some (.func (.func 218) #[] #[]) else
 if (⟨#[76,79,79,75,85,80]⟩:ByteArray)=s then some (.func (.func 217) #[] #[]) else
 if (⟨#[77,65,84,67,72]⟩:ByteArray)=s then some (.func (.func 217) #[] #[]) else
 if (⟨#[83,85,77,73,70]⟩:ByteArray)=s then some (.func (.func 216) #[] #[]) else
 if (⟨#[67,79,85,78,84,73,70]⟩:ByteArray)=s then some (.func (.func 215) #[] #[]) else
 if (⟨#[66,76,65,78,75,83]⟩:ByteArray)=s then some (.func (.func 213) #[] #[]) else
 if (⟨#[67,79,85,78,84,65]⟩:ByteArray)=s then some (.func (.func 272) #[] #[.pointer (some ⟨p+12,0,none⟩)]) else
 if (⟨#[67,79,85,78,84]⟩:ByteArray)=s then some (.func (.func 272) #[] #[.pointer (some ⟨p+11,0,none⟩)]) else
 if (⟨#[77,69,68,73,65,78]⟩:ByteArray)=s then some (.func (.func 264) #[] #[.pointer (some ⟨p+10,0,none⟩)]) else
 if (⟨#[65,86,71]⟩:ByteArray)=s then some (.func (.func 264) #[] #[.pointer (some ⟨p+8,0,none⟩)]) else
 if (⟨#[77,65,88]⟩:ByteArray)=s then some (.func (.func 264) #[] #[.pointer (some ⟨p+6,0,none⟩)]) else
 if (⟨#[77,73,78]⟩:ByteArray)=s then some (.func (.func 264) #[] #[.pointer (some ⟨p+4,0,none⟩)]) else
 if (⟨#[80,82,79,68]⟩:ByteArray)=s then some (.func (.func 264) #[] #[.pointer (some ⟨p+2,0,none⟩)]) else
 if (⟨#[83,85,77]⟩:ByteArray)=s then some (.func (.func 264) #[] #[.pointer (some ⟨p+1,0,none⟩)]) else none
def AggCells (p:Nat) (w':World):Prop:=w'.cell? ⟨p+1,0,none⟩=some (.func (.func 201) #[] #[]) /\
 w'.cell? ⟨p+2,0,none⟩=some (.func (.func 204) #[] #[]) /\
 w'.cell? ⟨p+3,0,none⟩=some (.func (.func 206) #[] #[]) /\
 w'.cell? ⟨p+4,0,none⟩=some (.func (.func 268) #[] #[.pointer (some ⟨p+3,0,none⟩)]) /\
 w'.cell? ⟨p+5,0,none⟩=some (.func (.func 207) #[] #[]) /\
 w'.cell? ⟨p+6,0,none⟩=some (.func (.func 268) #[] #[.pointer (some ⟨p+5,0,none⟩)]) /\
 w'.cell? ⟨p+7,0,none⟩=some (.func (.func 208) #[] #[]) /\
 w'.cell? ⟨p+8,0,none⟩=some (.func (.func 268) #[] #[.pointer (some ⟨p+7,0,none⟩)]) /\
 w'.cell? ⟨p+9,0,none⟩=some (.func (.func 209) #[] #[]) /\
 w'.cell? ⟨p+10,0,none⟩=some (.func (.func 268) #[] #[.pointer (some ⟨p+9,0,none⟩)]) /\
 w'.cell? ⟨p+11,0,none⟩=some (.func (.func 211) #[] #[]) /\
 w'.cell? ⟨p+12,0,none⟩=some (.func (.func 212) #[] #[])
def AggFound (s:ByteArray) (c:ByteArray) (x y:Int) (e:Ending) (w':World):Prop:=∃ fn first cap,e=.returned (.tuple #[.agg #[.string c,.int .i64 x,.int .i64 y,.func fn first cap],.bool true]) /\
 ∃ p,aggFn p s=some (.func fn first cap)/\AggCells p w'
def AggMissed (e:Ending):Prop:=e=.returned (.tuple #[.agg #[.string ⟨#[]⟩,.int .i64 0,.int .i64 0,.nilFunc],.bool false])
def AggPost (s:ByteArray) (e:Ending) (w':World):Prop:=(∃ c x y,zB4 s=some (c,x,y)/\AggFound s c x y e w')∨(zB4 s=none/\AggMissed e)
theorem aggs_find0 (s:ByteArray) (w:World):Calls Tryz.prog 135 #[.string s] w fun e w'=>AggPost s e w'/\Below w.heap.size w w':=by
 have hmk:∀ w,(Instr.makeMap 252 none).run Tryz.prog w=.ok (.map (some w.heap.size)) (zAI (w.alloc (.map #[] 0)) w.heap.size []):=fun w=>run_makeMapS w _
 have hst:∀ (w:World) (b:Nat) (L:List (ByteArray×Value)) (s:ByteArray) (v:Value),b<w.heap.size->(Instr.mapUpdate 252 (.map (some b)) (.string s) v).run Tryz.prog (zAI w b L)=.ok () (zAI w b (ups s v L)):=fun w b L s v h=>run_storeS Tryz.underlying9 Tryz.underlying252 w h s v L
 go_enter Tryz.func135,Tryz.ntmps135
 go_wp2_with(first|go_in|(at_lookup;refine wpList_lookA rfl 252 _ _ rfl 9 213 Tryz.underlying9 Tryz.underlying252 (.agg #[.string ⟨#[]⟩,.int .i64 0,.int .i64 0,.nilFunc]) (fun w=>by kernel_rfl) _ _ _ rfl (by simp) _ rfl ?_ ?_ ?_))
 ·repeat(with_reducible refine AllV.ups ?_ (funA _ _ _ _ _ _))
  exact AllV.nil _
 ·intro c x y fn first cap hv
  go_wp2
  go_returns
  refine⟨.inl ⟨c,x,y,?_,fn,first,cap,rfl,w.heap.size+1,?_,?_⟩,?_⟩
  ·have h:=congrArg (fun o=>o.bind projA) hv.out
   simp only[zCL,zCK] at h
   exact h
  ·have h:=congrArg (fun o=>o.bind projAF) hv.out
   simp only[zCL,zCK] at h
   exact h
  ·clear hv
   unfold AggCells
   go_simp
  ·refine zBU ?_ (by simp)
   exact bel
 ·intro hv
  go_wp2
  go_returns
  refine⟨.inr ⟨?_,rfl⟩,?_⟩
  ·have h:=congrArg (fun o=>o.bind projA) hv.out
   simp only[zCL,zCK] at h
   exact h
  ·refine zBU ?_ (by simp)
   exact bel
theorem zBw (s:ByteArray) (c:ByteArray) (x y:Int) (h:zB4 s=some (c,x,y)) (w:World):Calls Tryz.prog 135 #[.string s] w fun e w'=>AggFound s c x y e w'/\Below w.heap.size w w' :=
 (aggs_find0 s w).mono fun e w' ⟨hp,hb⟩=>by
  rcases hp with ⟨c',x',y',h',hf⟩|⟨h',_⟩
  ·rw[h] at h';cases h';exact⟨hf,hb⟩
  ·rw[h] at h';cases h'
theorem aggs_find_no (s:ByteArray) (h:zB4 s=none) (w:World):Calls Tryz.prog 135 #[.string s] w fun e w'=>AggMissed e/\Below w.heap.size w w' :=
 (aggs_find0 s w).mono fun e w' ⟨hp,hb⟩=>by
  rcases hp with ⟨c',x',y',h',hf⟩|⟨_,hm⟩
  ·rw[h] at h';cases h'
  ·exact⟨hm,hb⟩
end Go.Proofs.YtppghgnhlgoagaaGreatDoor
