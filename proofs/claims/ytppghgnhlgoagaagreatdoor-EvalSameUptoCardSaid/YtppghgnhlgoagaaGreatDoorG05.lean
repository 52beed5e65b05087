/- Parts. -/
import Derived.Test.YtppghgnhlgoagaaGreatDoorG03
set_option linter.all false
set_option maxRecDepth 100000
set_option maxHeartbeats 4000000
namespace Go.Proofs.YtppghgnhlgoagaaGreatDoor
open Go Go.RowKit
open Go.Lib renaming hid->zh
def V.cells (v:V):List Value:=[.int .i64 v.tag,.int .i64 v.num,.string v.str,.bool v.is,.int .i64 v.code]
def flat (vs:List V):List Value:=vs.flatMap V.cells
theorem flat_cons (v:V) (vs:List V):flat (v::vs)=v.cells++flat vs:=rfl
theorem flat_length (vs:List V):(flat vs).length=vs.length*5:=by
 induction vs with
 | nil=>rfl
 | cons v vs ih=>rw[flat_cons,List.length_append,ih,List.length_cons];simp[V.cells];omega
theorem flat_at (vs:List V) (k:Nat) (v:V) (h:vs[k]? =some v) (j:Nat) (u:Value) (hu:v.cells[j]? =some u):(flat vs)[k*5+j]? =some u:=by
 induction vs generalizing k with
 | nil=>simp at h
 | cons x xs ih =>
   have hj:j<5:=(List.getElem?_eq_some_iff.1 hu).1
   rw[flat_cons]
   cases k with
   | zero =>
     simp at h
     subst h
     rw[List.getElem?_append_left (by simp[V.cells];omega)]
     simpa using hu
   | succ k =>
     rw[List.getElem?_append_right (by simp[V.cells];omega)]
     have:=ih k (by simpa using h)
     have e:(k+1)*5+j-x.cells.length=k*5+j:=by simp[V.cells];omega
     rw[e]
     exact this
def Held (w:World) (g:Nat) (vs:List V):Prop:=∀ j u,(flat vs)[j]? =some u->w.cell? ⟨g,j,none⟩=some u
theorem Held.at {w:World} {g:Nat} {vs:List V} (h:Held w g vs) (k:Nat) (v:V) (hv:vs[k]? =some v) (j0 j1 j2 j3 j4:Nat) (e0:j0=k*5) (e1:j1=k*5+1) (e2:j2=k*5+2) (e3:j3=k*5+3) (e4:j4=k*5+4) :
  w.cell? ⟨g,j0,none⟩=some (.int .i64 v.tag)/\w.cell? ⟨g,j1,none⟩=some (.int .i64 v.num)/\w.cell? ⟨g,j2,none⟩=some (.string v.str)/\w.cell? ⟨g,j3,none⟩=some (.bool v.is)/\w.cell? ⟨g,j4,none⟩=some (.int .i64 v.code):=by
 subst e0 e1 e2 e3 e4
 exact⟨h _ _ (flat_at vs k v hv 0 _ rfl),h _ _ (flat_at vs k v hv 1 _ rfl),h _ _ (flat_at vs k v hv 2 _ rfl),h _ _ (flat_at vs k v hv 3 _ rfl),h _ _ (flat_at vs k v hv 4 _ rfl)⟩
theorem Held.keeps {w w':World} {g:Nat} {vs:List V} (h:Held w g vs) (hk:Keeps w w'):Held w' g vs:=fun j u hu=>hk.cell _ _ _ (h j u hu)
def zB6:List V->V
 | x::y::zs=>if (zAX x).2≠0 then errG (zAX x).2 else if (zAX x).1 then y else match zs with
   | [z]=>z
   | _=>zC1 false
 | _=>errG 8
theorem funcs_choice2 (x y:V) (g c:Nat) (w:World) (h:Held w g [x,y]):Rt 116 #[.slice (some ⟨g,0,none⟩) 2 c] w (vG (zB6 [x,y])):=by
 obtain⟨hx0,hx1,hx2,hx3,hx4⟩:=h.at 0 x rfl 0 1 2 3 4 rfl rfl rfl rfl rfl
 have hg:=cltK hx0
 obtain⟨hy0,hy1,hy2,hy3,hy4⟩:=h.at 1 y rfl 5 6 7 8 9 rfl rfl rfl rfl rfl
 clear h
 by_cases hc:(zAX x).2=0
 ·by_cases hb:(zAX x).1=true
  ·have e:zB6 [x,y]=y:=by simp[zB6,hc,hb]
   rw[e]
   replace hc:((zAX x).2 != 0)=false:=by simp[hc]
   clear e
   go_enter Tryz.func116,Tryz.ntmps116
   go_wp2_with(go_at_call 151;refine mB (zBI _ _) ?_;intro l n)
   all_goals go_returns
   exact⟨rfl,bel⟩
  ·have e:zB6 [x,y]=zC1 false:=by simp[zB6,hc,hb]
   rw[e]
   replace hc:((zAX x).2 != 0)=false:=by simp[hc]
   replace hb:(zAX x).1=false:=by simpa using hb
   clear e
   go_enter Tryz.func116,Tryz.ntmps116
   go_wp2_with(first|(go_at_call 151;refine mB (zBI _ _) ?_;intro l n)|(go_at_call 66;refine mB (zB2 _ _) ?_;intro l n))
   all_goals go_returns
   exact⟨rfl,bel⟩
 ·have e:zB6 [x,y]=errG (zAX x).2:=by simp[zB6,hc]
  rw[e]
  replace hc:((zAX x).2 != 0)=true:=by simp[hc]
  clear e
  go_enter Tryz.func116,Tryz.ntmps116
  go_wp2_with(first|(go_at_call 151;refine mB (zBI _ _) ?_;intro l n)|(go_at_call 21;refine mB (zA3 _ _) ?_;intro l n))
  all_goals go_returns
  exact⟨rfl,bel⟩
theorem funcs_choice3 (x y z:V) (g c:Nat) (w:World) (h:Held w g [x,y,z]):Rt 116 #[.slice (some ⟨g,0,none⟩) 3 c] w (vG (zB6 [x,y,z])):=by
 obtain⟨hx0,hx1,hx2,hx3,hx4⟩:=h.at 0 x rfl 0 1 2 3 4 rfl rfl rfl rfl rfl
 have hg:=cltK hx0
 obtain⟨hy0,hy1,hy2,hy3,hy4⟩:=h.at 1 y rfl 5 6 7 8 9 rfl rfl rfl rfl rfl
 obtain⟨hz0,hz1,hz2,hz3,hz4⟩:=h.at 2 z rfl 10 11 12 13 14 rfl rfl rfl rfl rfl
 clear h
 by_cases hc:(zAX x).2=0
 ·by_cases hb:(zAX x).1=true
  ·have e:zB6 [x,y,z]=y:=by simp[zB6,hc,hb]
   rw[e]
   replace hc:((zAX x).2 != 0)=false:=by simp[hc]
   clear e
   go_enter Tryz.func116,Tryz.ntmps116
   go_wp2_with(go_at_call 151;refine mB (zBI _ _) ?_;intro l n)
   all_goals go_returns
   exact⟨rfl,bel⟩
  ·have e:zB6 [x,y,z]=z:=by simp[zB6,hc,hb]
   rw[e]
   replace hc:((zAX x).2 != 0)=false:=by simp[hc]
   replace hb:(zAX x).1=false:=by simpa using hb
   clear e
   go_enter Tryz.func116,Tryz.ntmps116
   go_wp2_with(first|(go_at_call 151;refine mB (zBI _ _) ?_;intro l n)|(go_at_call 66;refine mB (zB2 _ _) ?_;intro l n))
   all_goals go_returns
   exact⟨rfl,bel⟩
 ·have e:zB6 [x,y,z]=errG (zAX x).2:=by simp[zB6,hc]
  rw[e]
  replace hc:((zAX x).2 != 0)=true:=by simp[hc]
  clear e
  go_enter Tryz.func116,Tryz.ntmps116
  go_wp2_with(first|(go_at_call 151;refine mB (zBI _ _) ?_;intro l n)|(go_at_call 21;refine mB (zA3 _ _) ?_;intro l n))
  all_goals go_returns
  exact⟨rfl,bel⟩
def iferrG:List V->V
 | x::y::_=>if x.tag=4 then y else x
 | _=>errG 8
theorem funcs_iferr (x y:V) (g c:Nat) (w:World) (h:Held w g [x,y]):Rt 122 #[.slice (some ⟨g,0,none⟩) 2 c] w (vG (iferrG [x,y])):=by
 obtain⟨hx0,hx1,hx2,hx3,hx4⟩:=h.at 0 x rfl 0 1 2 3 4 rfl rfl rfl rfl rfl
 have hg:=cltK hx0
 obtain⟨hy0,hy1,hy2,hy3,hy4⟩:=h.at 1 y rfl 5 6 7 8 9 rfl rfl rfl rfl rfl
 clear h
 by_cases ht:x.tag=4
 ·have e:iferrG [x,y]=y:=by simp[iferrG,ht]
  rw[e]
  replace ht:(x.tag==4)=true:=by simp[ht]
  clear e
  go_enter Tryz.func122,Tryz.ntmps122
  go_wp2_with(first|fail)
  all_goals go_returns
  exact⟨rfl,bel⟩
 ·have e:iferrG [x,y]=x:=by simp[iferrG,ht]
  rw[e]
  replace ht:(x.tag==4)=false:=by simp[ht]
  clear e
  go_enter Tryz.func122,Tryz.ntmps122
  go_wp2_with(first|fail)
  all_goals go_returns
  exact⟨rfl,bel⟩
def typeG (x:V):V:=numG (x.tag*10000)
theorem funcs_type (x:V) (h0:0<=x.tag) (h4:x.tag<=4) (g c:Nat) (w:World) (h:Held w g [x]):Rt 124 #[.slice (some ⟨g,0,none⟩) 1 c] w (vG (typeG x)):=by
 obtain⟨hx0,hx1,hx2,hx3,hx4⟩:=h.at 0 x rfl 0 1 2 3 4 rfl rfl rfl rfl rfl
 have hg:=cltK hx0
 clear h
 go_enter Tryz.func124,Tryz.ntmps124
 go_wp2_with(go_at_call 55;refine mB (zAq _ _) ?_;intro l n)
 all_goals go_returns
 exact⟨rfl,bel⟩
theorem funcs_ask (x:V) (g c:Nat) (w:World):Rt 128 #[.slice (some ⟨g,0,none⟩) 1 c] w (vG (errG 8)):=by
 go_enter Tryz.func128,Tryz.ntmps128
 go_wp2_with(go_at_call 21;refine mB (zA3 _ _) ?_;intro l n)
 all_goals go_returns
 exact⟨rfl,bel⟩
def errnoG (x:V):V:=if x.tag=4 then numG (x.code*10000) else errG 8
theorem funcs_errno (x:V) (h0:x.tag=4->isCode x.code=true) (g c:Nat) (w:World) (h:Held w g [x]):Rt 125 #[.slice (some ⟨g,0,none⟩) 1 c] w (vG (errnoG x)):=by
 obtain⟨hx0,hx1,hx2,hx3,hx4⟩:=h.at 0 x rfl 0 1 2 3 4 rfl rfl rfl rfl rfl
 have hg:=cltK hx0
 clear h
 by_cases ht:x.tag=4
 ·have hc:=h0 ht
  have e:errnoG x=numG (x.code*10000):=by simp[errnoG,ht]
  rw[e]
  simp only[isCode,Bool.and_eq_true,decide_eq_true_eq] at hc
  obtain⟨hc0,hc1⟩:=hc
  replace ht:(x.tag != 4)=false:=by simp[ht]
  clear e h0
  go_enter Tryz.func125,Tryz.ntmps125
  go_wp2_with(go_at_call 55;refine mB (zAq _ _) ?_;intro l n)
  all_goals go_returns
  exact⟨rfl,bel⟩
 ·have e:errnoG x=errG 8:=by simp[errnoG,ht]
  rw[e]
  replace ht:(x.tag != 4)=true:=by simp[ht]
  clear e h0
  go_enter Tryz.func125,Tryz.ntmps125
  go_wp2_with(go_at_call 21;refine mB (zA3 _ _) ?_;intro l n)
  all_goals go_returns
  exact⟨rfl,bel⟩
theorem funcs_is1 (t:Int) (x:V) (p g c:Nat) (w:World) (hp:w.cell? ⟨p,0,none⟩=some (.int .i64 t)) (h:Held w g [x]):Rt 155 #[.slice (some ⟨g,0,none⟩) 1 c,.pointer (some ⟨p,0,none⟩)] w (vG (zC1 (x.tag==t))):=by
 obtain⟨hx0,hx1,hx2,hx3,hx4⟩:=h.at 0 x rfl 0 1 2 3 4 rfl rfl rfl rfl rfl
 have hg:=cltK hx0
 have hpl:=cltK hp
 clear h hx1 hx2 hx3 hx4
 go_enter Tryz.func155,Tryz.ntmps155
 go_wp2
 go_region_held3 (fun w'=>w'.cell? ⟨p,0,none⟩=some (.int .i64 t)/\w'.cell? ⟨g,0,none⟩=some (.int .i64 x.tag)) (first|go_keep|((try dsimp only[vG]);refine⟨?_,?_⟩<;>first|go_keep|(rw[zCC (by simp;omega)];assumption)|(rw[zCC (by simp;omega)];go_simp;done))) (first|(go_at_call 66;refine mB (zB2 _ _) ?_;intro l n))
 all_goals go_wp2
 all_goals go_returns
 all_goals exact⟨rfl,bel⟩
def zAN (v:V):Int×Int:=if (zA5 v).2≠0 then (0,(zA5 v).2) else if (zAL (zA5 v).1).2 then ((zAL (zA5 v).1).1,0) else (0,8)
theorem asNum_range {v:V} (hlo: -9223372036854775808<=v.num) (hhi:v.num<=9223372036854775807): -9223372036854775808<=(zA5 v).1/\(zA5 v).1<=9223372036854775807:=by
 unfold zA5
 repeat' split
 all_goals(dsimp only[vG];omega)
theorem zBK (v:V) (hlo: -9223372036854775808<=v.num) (hhi:v.num<=9223372036854775807) (w:World):Rt 156 #[(vG v)] w (.tuple #[.int .i64 (zAN v).1,.int .i64 (zAN v).2]):=by
 obtain⟨hlo,hhi⟩:=asNum_range hlo hhi
 by_cases hc:(zA5 v).2=0
 ·by_cases hw:(zAL (zA5 v).1).2=true
  ·have e:zAN v=((zAL (zA5 v).1).1,0):=by simp[zAN,hc,hw]
   rw[e]
   replace hc:((zA5 v).2 != 0)=false:=by simp[hc]
   clear e
   go_enter Tryz.func156,Tryz.ntmps156
   go_wp2_with(first|(go_at_call 35;refine mB (zAG _ _) ?_;intro l n)|(go_at_call 134;refine(zAs _ hlo hhi _).mono ?_;rintro e w1 ⟨rfl,rfl⟩))
   go_ret2
   exact⟨rfl,bel⟩
  ·have e:zAN v=(0,8):=by simp[zAN,hc,hw]
   rw[e]
   replace hc:((zA5 v).2 != 0)=false:=by simp[hc]
   replace hw:(zAL (zA5 v).1).2=false:=by simpa using hw
   clear e
   go_enter Tryz.func156,Tryz.ntmps156
   go_wp2_with(first|(go_at_call 35;refine mB (zAG _ _) ?_;intro l n)|(go_at_call 134;refine(zAs _ hlo hhi _).mono ?_;rintro e w1 ⟨rfl,rfl⟩))
   go_ret2
   exact⟨rfl,bel⟩
 ·have e:zAN v=(0,(zA5 v).2):=by simp[zAN,hc]
  rw[e]
  replace hc:((zA5 v).2 != 0)=true:=by simp[hc]
  clear e
  go_enter Tryz.func156,Tryz.ntmps156
  go_wp2_with(first|(go_at_call 35;refine mB (zAG _ _) ?_;intro l n)|(go_at_call 134;refine(zAs _ hlo hhi _).mono ?_;rintro e w1 ⟨rfl,rfl⟩))
  go_ret2
  exact⟨rfl,bel⟩
def faultG (x:V):V:=errG (if (zAN x).2=0 then if 1<(zAN x).1/\(zAN x).1<=8 then (zAN x).1 else 8 else (zAN x).2)
theorem funcs_fault (x:V) (hlo: -9223372036854775808<=x.num) (hhi:x.num<=9223372036854775807) (g c:Nat) (w:World) (h:Held w g [x]):Rt 126 #[.slice (some ⟨g,0,none⟩) 1 c] w (vG (faultG x)):=by
 obtain⟨hx0,hx1,hx2,hx3,hx4⟩:=h.at 0 x rfl 0 1 2 3 4 rfl rfl rfl rfl rfl
 have hg:=cltK hx0
 clear h
 by_cases hc:(zAN x).2=0
 ·by_cases h1:1<(zAN x).1
  ·by_cases h8:(zAN x).1<=8
   ·have e:faultG x=errG (zAN x).1:=by simp[faultG,hc,h1,h8]
    rw[e]
    replace hc:((zAN x).2==0)=true:=by simp[hc]
    clear e
    go_enter Tryz.func126,Tryz.ntmps126
    go_wp2_with(first|(go_at_call 156;refine mB (zBK _ hlo hhi _) ?_;intro l n)|(go_at_call 21;refine mB (zA3 _ _) ?_;intro l n))
    all_goals go_returns
    exact⟨rfl,bel⟩
   ·have e:faultG x=errG 8:=by simp[faultG,hc,h8]
    rw[e]
    replace hc:((zAN x).2==0)=true:=by simp[hc]
    clear e
    go_enter Tryz.func126,Tryz.ntmps126
    go_wp2_with(first|(go_at_call 156;refine mB (zBK _ hlo hhi _) ?_;intro l n)|(go_at_call 21;refine mB (zA3 _ _) ?_;intro l n))
    all_goals go_returns
    exact⟨rfl,bel⟩
  ·have e:faultG x=errG 8:=by simp[faultG,hc,h1]
   rw[e]
   replace hc:((zAN x).2==0)=true:=by simp[hc]
   clear e
   go_enter Tryz.func126,Tryz.ntmps126
   go_wp2_with(first|(go_at_call 156;refine mB (zBK _ hlo hhi _) ?_;intro l n)|(go_at_call 21;refine mB (zA3 _ _) ?_;intro l n))
   all_goals go_returns
   exact⟨rfl,bel⟩
 ·have e:faultG x=errG (zAN x).2:=by simp[faultG,hc]
  rw[e]
  replace hc:((zAN x).2==0)=false:=by simp[hc]
  clear e
  go_enter Tryz.func126,Tryz.ntmps126
  go_wp2_with(first|(go_at_call 156;refine mB (zBK _ hlo hhi _) ?_;intro l n)|(go_at_call 21;refine mB (zA3 _ _) ?_;intro l n))
  all_goals go_returns
  exact⟨rfl,bel⟩
def zC5:List V->V
 | x::vs=>if (zAN x).2≠0 then errG (zAN x).2 else if 1<=(zAN x).1/\(zAN x).1<=vs.length then vs.getD ((zAN x).1.toNat-1) (errG 8) else errG 5
 | _=>errG 8
theorem funcs_choose (x:V) (vs:List V) (hlo: -9223372036854775808<=x.num) (hhi:x.num<=9223372036854775807) (g c:Nat) (hl:vs.length<=1000000) (w:World) (h:Held w g (x::vs)):Rt 127 #[.slice (some ⟨g,0,none⟩) (vs.length+1) c] w (vG (zC5 (x::vs))):=by
 obtain⟨hx0,hx1,hx2,hx3,hx4⟩:=h.at 0 x rfl 0 1 2 3 4 rfl rfl rfl rfl rfl
 have hg:=cltK hx0
 have H:=zh h
 clear h
 by_cases hc:(zAN x).2=0
 ·by_cases h1:1<=(zAN x).1
  ·by_cases h8:(zAN x).1<=vs.length
   ·obtain⟨i,hi⟩:∃ i:Nat,(zAN x).1=((i+1:Nat):Int):=⟨(zAN x).1.toNat-1,by omega⟩
    have hil:i<vs.length:=by omega
    obtain⟨v,hv⟩:∃ v,vs[i]? =some v:=⟨_,List.getElem?_eq_getElem hil⟩
    have e:zC5 (x::vs)=v:=by
     have h8':(i:Int)+1<=vs.length:=by omega
     simp[zC5,hc,hi,hv,h8']
     omega
    rw[e]
    obtain⟨hv0,hv1,hv2,hv3,hv4⟩:=H.out.at (i+1) v (by simpa using hv) _ _ _ _ _ rfl rfl rfl rfl rfl
    have hI:∀ w,Rt 156 #[(vG x)] w (.tuple #[.int .i64 ((i+1:Nat):Int),.int .i64 0]):=fun w=>by
     have:=zBK x hlo hhi w
     rw[hi,hc] at this
     exact this
    have HI:=zh hI
    clear e hc hi h1 h8 hI hv
    go_enter Tryz.func127,Tryz.ntmps127
    go_wp2_with(go_at_call 156;refine mB (HI.out _) ?_;intro l n)
    all_goals go_returns
    exact⟨rfl,bel⟩
   ·have e:zC5 (x::vs)=errG 5:=by simp[zC5,hc,h8]
    rw[e]
    replace hc:((zAN x).2 != 0)=false:=by simp[hc]
    clear e H
    go_enter Tryz.func127,Tryz.ntmps127
    go_wp2_with(first|(go_at_call 156;refine mB (zBK _ hlo hhi _) ?_;intro l n)|(go_at_call 21;refine mB (zA3 _ _) ?_;intro l n))
    all_goals go_returns
    exact⟨rfl,bel⟩
  ·have e:zC5 (x::vs)=errG 5:=by simp[zC5,hc,h1]
   rw[e]
   replace hc:((zAN x).2 != 0)=false:=by simp[hc]
   clear e H
   go_enter Tryz.func127,Tryz.ntmps127
   go_wp2_with(first|(go_at_call 156;refine mB (zBK _ hlo hhi _) ?_;intro l n)|(go_at_call 21;refine mB (zA3 _ _) ?_;intro l n))
   all_goals go_returns
   exact⟨rfl,bel⟩
 ·have e:zC5 (x::vs)=errG (zAN x).2:=by simp[zC5,hc]
  rw[e]
  replace hc:((zAN x).2 != 0)=true:=by simp[hc]
  clear e H
  go_enter Tryz.func127,Tryz.ntmps127
  go_wp2_with(first|(go_at_call 156;refine mB (zBK _ hlo hhi _) ?_;intro l n)|(go_at_call 21;refine mB (zA3 _ _) ?_;intro l n))
  all_goals go_returns
  exact⟨rfl,bel⟩
structure Arg where
 many:Bool
 val:V
 top:Int
 left:Int
 bottom:Int
 right:Int
 ents:Option Addr
 n:Nat
 c:Nat
def Arg.agg (a:Arg):Value:=.agg #[.bool a.many,.int .i64 a.val.tag,.int .i64 a.val.num,.string a.val.str,.bool a.val.is,.int .i64 a.val.code,.int .i64 a.top,.int .i64 a.left,.int .i64 a.bottom,.int .i64 a.right,.slice a.ents a.n a.c]
def Arg.cells (a:Arg):List Value:=[.bool a.many,.int .i64 a.val.tag,.int .i64 a.val.num,.string a.val.str,.bool a.val.is,.int .i64 a.val.code,.int .i64 a.top,.int .i64 a.left,.int .i64 a.bottom,.int .i64 a.right,.slice a.ents a.n a.c]
def zBC (xs:List Arg):List Value:=xs.flatMap Arg.cells
theorem zBf (a:Arg) (xs:List Arg):zBC (a::xs)=a.cells++zBC xs:=rfl
theorem zAo (xs:List Arg):(zBC xs).length=xs.length*11:=by
 induction xs with
 | nil=>rfl
 | cons v vs ih=>rw[zBf,List.length_append,ih,List.length_cons];simp[Arg.cells];omega
theorem zAb (xs:List Arg) (k:Nat) (a:Arg) (h:xs[k]? =some a) (j:Nat) (u:Value) (hu:a.cells[j]? =some u):(zBC xs)[k*11+j]? =some u:=by
 induction xs generalizing k with
 | nil=>simp at h
 | cons x xs ih =>
   have hj:j<11:=(List.getElem?_eq_some_iff.1 hu).1
   rw[zBf]
   cases k with
   | zero =>
     simp at h
     subst h
     rw[List.getElem?_append_left (by simp[Arg.cells];omega)]
     simpa using hu
   | succ k =>
     rw[List.getElem?_append_right (by simp[Arg.cells];omega)]
     have:=ih k (by simpa using h)
     have e:(k+1)*11+j-x.cells.length=k*11+j:=by simp[Arg.cells];omega
     rw[e]
     exact this
theorem own_below {w w1:World} {base e size n:Nat} {v:Value} {xs:List Value} (h:w.ownsRow base e size v n xs) (hb:Below w.heap.size w w1):w1.ownsRow base e size v n xs:=by
 refine⟨h.1,?_⟩
 rcases h.2 with h2|⟨g,cap,cur,e1,hg,hh,rest⟩
 ·exact .inl h2
 ·exact .inr ⟨g,cap,cur,e1,hg,(hb.block g (Array.getElem?_eq_some_iff.1 hh).1).trans hh,rest⟩
theorem own_block_ge {w:World} {base e size n:Nat} {v:Value} {xs:List Value} (h:w.ownsRow base e size v n xs):∀ k,v.ownBlock=some k->base<=k:=fun k hk=>(h.lt k hk).1
theorem Reads.zB5 {w:World} {size n base c:Nat} {e:TypeId} {A:Option Addr} {xs:List Value} (h:w.ownsRow base e size (.slice A n c) n xs):Reads w w.heap.size size A n xs:=by
 refine⟨h.1,fun hn=> ?_⟩
 rcases h.2 with ⟨_,h2⟩|⟨g,cap,cur,e1,hg,hh,h1,h2,h3,h4⟩
 ·omega
 ·injection e1 with e1
  subst e1
  refine⟨g,0,rfl,(Array.getElem?_eq_some_iff.1 hh).1,fun j u hu=> ?_⟩
  have:=h.cells (g:=g) rfl j u hu
  rw[<- this]
  congr 1
  unfold Addr.add
  split<;>simp_all
theorem own_form {w:World} {base e size n:Nat} {v:Value} {xs:List Value} (h:w.ownsRow base e size v n xs) (hn:0<n):∃ g c,v=.slice (some ⟨g,0,none⟩) n c/\base<=g/\g<w.heap.size/\∀ j u,xs[j]? =some u->w.cell? ⟨g,j,none⟩=some u:=by
 rcases h.2 with ⟨_,h2⟩|⟨g,cap,cur,e1,hg,hh,h1,h2,h3,h4⟩
 ·omega
 ·subst e1
  refine⟨g,cap,rfl,hg,(Array.getElem?_eq_some_iff.1 hh).1,fun j u hu=> ?_⟩
  have:=h.cells (g:=g) rfl j u hu
  rw[<- this]
  congr 1
  unfold Addr.add
  split<;>simp_all
theorem zAn {α:Type} {xs:List α} {k:Nat} {a:α} (h:xs[k]? =some a):xs.take (k+1)=xs.take k++[a]:=by
 rw[List.take_add_one,h]
 rfl
theorem zC7 (xs ys:List V):flat (xs++ys)=flat xs++flat ys:=by simp[flat]
theorem info_V:(Tryz.prog.info? 44).map (fun i=>(i.zero,i.size,i.bytes))=some (some (.agg #[.int .i64 0,.int .i64 0,.string ⟨#[]⟩,.bool false,.int .i64 0]),5,48):=by kernel_rfl
theorem info_B:(Tryz.prog.info? 4).map (fun i=>(i.zero,i.size,i.bytes))=some (some (.bool false),1,1):=by kernel_rfl
theorem cell_blk {w:World} {b i:Nat} {cs:Array Value} {t:TypeId} {v:Value} (h:w.heap[b]? =some (.cells cs t (0,0))) (hv:cs[i]? =some v):w.cell? ⟨b,i,none⟩=some v:=(cell_of_row w b i cs t (0,0) h).trans hv
theorem zAe {w:World} {cs:Array Value} {t:TypeId} {b:Nat} (hb:b=w.heap.size):∀ j u,cs.toList[j]? =some u->(w.alloc (.cells cs t)).cell? ((⟨b,0,none⟩:Addr).add j)=some u:=by
 subst hb
 intro j u hu
 have e:(⟨w.heap.size,0,none⟩:Addr).add j=⟨w.heap.size,j,none⟩:=by unfold Addr.add;split<;>simp_all
 rw[e,cell_of_row (w.alloc (.cells cs t)) w.heap.size j cs t (0,0) (heap_alloc_new w _)]
 simpa using hu
theorem cells_one (v:V):∀ u∈v.cells,u.oneCell'=true:=by
 intro u hu
 simp only[V.cells,List.mem_cons,List.not_mem_nil,or_false] at hu
 rcases hu with rfl|rfl|rfl|rfl|rfl<;>rfl
def zAW (w wr:World) (e:TypeId) (size:Nat) (v:Value) (k:Nat) (xs:List Value):Prop:=Below w.heap.size w wr/\wr.ownsRow w.heap.size e size v k xs
theorem zAW.step {w wr w2 w3:World} {e:TypeId} {size:Nat} {v v':Value} {k:Nat} {xs ys:List Value} (h:zAW w wr e size v k xs) (hb:Below wr.heap.size wr w2)
  (ho:w3.ownsRow w.heap.size e size v' (k+1) (xs++ys)) (hg:w2.grownBy w3 v.ownBlock):zAW w w3 e size v' (k+1) (xs++ys):=by
 obtain⟨h1,h3⟩:=h
 have hrow:=own_block_ge h3
 have s1:=h1.size
 have s2:=hb.size
 exact⟨(h1.trans (hb.mono (by omega))).grown hg (by omega) hrow,ho⟩
def zeroV:Obj:=.cells #[.int .i64 0,.int .i64 0,.string ⟨#[]⟩,.bool false,.int .i64 0] 44
theorem gather0 (pd k:Nat) (hk:∀ (args:Array Value) (w:World),Sem.run Tryz.prog (callFunc k args) w=.ok (.enter k args) w) (tx:Int) (xs:List Arg) (A:Option Addr) (n c B:Nat) (w:World) (hp:w.cell? ⟨pd,0,none⟩=some (.func (.func k) #[] #[])) (hr:Reads w B 11 A n (zBC xs)) (hm:n<=1000000000000) (h0:0<n) (r:V)
  (hd:∀ w' g c',Below w.heap.size w w'->Held w' g (xs.map Arg.val)->Calls Tryz.prog k #[.slice (some ⟨g,0,none⟩) n c'] w' fun e w''=>e=.returned (vG r)/\Below w'.heap.size w' w'') :
  Rt 150 #[.slice A n c,.int .i64 tx,.pointer (some ⟨pd,0,none⟩)] w (vG r):=by
 have hlen:xs.length=n:=by
  have:=hr.1
  rw[zAo] at this
  omega
 obtain⟨b,off,rfl,_,hc⟩:=hr.2 h0
 obtain⟨vs,hvs⟩:∃ vs,vs=xs.map Arg.val:=⟨_,rfl⟩
 have hvl:vs.length=n:=by rw[hvs,List.length_map,hlen]
 have hva:∀ (j:Nat) (x:Arg),xs[j]? =some x->vs[j]? =some x.val:=fun j x hx=>by rw[hvs,List.getElem?_map,hx];rfl
 rw[<- hvs] at hd
 have HV:=zh hva
 have HC:=zh hc
 have HD:=zh hd
 have hpl:=World.block_lt_of_cell? w _ hp
 obtain⟨i0,hi,hz0,hz1,hz2⟩:=info_parts info_V
 clear hr hc hd hva hvs
 go_enter Tryz.func150,Tryz.ntmps150
 go_wp2
 go_loopw [11,6] (fun t v wr=>∃ j:Nat,j<=n/\t=.int .i64 j/\zAW (w.alloc zeroV) wr 44 5 v j (flat (vs.take j))) (fun t _ _=>n-(intOf t).toNat)
 case atStart=>exact⟨0,Nat.zero_le _,rfl,Below.refl _ _,World.ownsRow_nil _ _ _ _⟩
 case round =>
  obtain⟨j,hj,rfl,hR⟩:=hrel
  by_cases hlt:j<n
  ·obtain⟨x,hx⟩:∃ x,xs[j]? =some x:=⟨_,List.getElem?_eq_getElem (show j<xs.length by omega)⟩
   have hcell:∀ i u,x.cells[i]? =some u->wr.cell? ⟨b,off+(j*11+i),none⟩=some u:=fun i u hu=>by
    have h1:=HC.out _ u (zAb xs j x hx i u hu)
    have h2:=cltK h1
    exact(hR.1.cell (p:=⟨b,_,none⟩) (by simp;omega)).trans ((World.cell?_alloc_lt w _ _ h2).trans h1)
   have c0:=hcell 0 _ rfl
   have c1:=hcell 1 _ rfl
   have c2:=hcell 2 _ rfl
   have c3:=hcell 3 _ rfl
   have c4:=hcell 4 _ rfl
   have c5:=hcell 5 _ rfl
   have c6:=hcell 6 _ rfl
   have c7:=hcell 7 _ rfl
   have c8:=hcell 8 _ rfl
   have c9:=hcell 9 _ rfl
   have c10:=hcell 10 _ rfl
   simp only[<- Nat.add_assoc,Nat.add_zero] at c0 c1 c2 c3 c4 c5 c6 c7 c8 c9 c10
   have hvx:=zh (HV.out j x hx)
   have HR:=zh hR
   clear hcell hR
   go_wp2_with(at_builtin;refine wpList_append_own _ rfl _ _ 194 rfl (w.alloc zeroV).heap.size 44 i0 _ 5 48 Tryz.underlying194 hi hz0 hz1 hz2 rfl (by decide) _ _ _ rfl (own_below HR.out.2 bel) _ 1 1 x.val.cells rfl rfl ?_ ?_ ?_ ?_ ?_ ?_)
   ·exact fun i u hu=>zAe (by simp) i u hu
   ·exact cells_one _
   ·simp only[maxLen];omega
   ·omega
   ·have h1:=HR.out.1.size
    simp at h1 ⊢
    omega
   ·intro v' w1 hown' hgrow _
    have R:=zAW.step HR.out bel (show w1.ownsRow (w.alloc zeroV).heap.size 44 5 v' (j+1) (flat (vs.take j)++x.val.cells) from by simpa using hown') hgrow
    have ef:flat (vs.take j)++x.val.cells=flat (vs.take (j+1)):=by rw[zAn hvx.out,zC7];simp[flat]
    rw[ef] at R
    have HR':=zh R
    clear hown' hgrow R HR c0 c1 c2 c3 c4 c5 c6 c7 c8 c9 c10
    go_wp2
    go_roundw
    case rel=>exact⟨j+1,by omega,by go_num,HR'.out⟩
    case measure=>simp[intOf];omega
  ·obtain rfl:j=n:=by omega
   rw[List.take_of_length_le (by omega)] at hR
   obtain⟨hB,hO⟩:=hR
   obtain⟨g,c',rfl,hg,hgl,hH⟩:=own_form hO h0
   have HH:=zh (show Held wr g vs from hH)
   have HB:=zh ((show Below w.heap.size w (w.alloc zeroV) from bel).trans (hB.mono (by simp)))
   obtain⟨l0,q0,rfl⟩:=zA0 hB
   clear hO hH hB
   unfold zeroV at *
   go_wp2_with(with_reducible refine Calls.mono (HD.out _ g c' HB.out HH.out) ?_;rintro e w2 ⟨rfl,hb⟩;obtain⟨l,q,rfl⟩:=zA0 hb;clear hb)
   all_goals go_returns
   exact⟨rfl,bel⟩
theorem gather1 (pd k p:Nat) (hk:∀ (args:Array Value) (w:World),Sem.run Tryz.prog (callFunc k args) w=.ok (.enter k args) w) (tx:Int) (xs:List Arg) (A:Option Addr) (n c B:Nat) (w:World) (hp:w.cell? ⟨pd,0,none⟩=some (.func (.func k) #[] #[.pointer (some ⟨p,0,none⟩)])) (hr:Reads w B 11 A n (zBC xs)) (hm:n<=1000000000000) (h0:0<n) (r:V)
  (hd:∀ w' g c',Below w.heap.size w w'->Held w' g (xs.map Arg.val)->Calls Tryz.prog k #[.slice (some ⟨g,0,none⟩) n c',.pointer (some ⟨p,0,none⟩)] w' fun e w''=>e=.returned (vG r)/\Below w'.heap.size w' w'') :
  Rt 150 #[.slice A n c,.int .i64 tx,.pointer (some ⟨pd,0,none⟩)] w (vG r):=by
 have hlen:xs.length=n:=by
  have:=hr.1
  rw[zAo] at this
  omega
 obtain⟨b,off,rfl,_,hc⟩:=hr.2 h0
 obtain⟨vs,hvs⟩:∃ vs,vs=xs.map Arg.val:=⟨_,rfl⟩
 have hvl:vs.length=n:=by rw[hvs,List.length_map,hlen]
 have hva:∀ (j:Nat) (x:Arg),xs[j]? =some x->vs[j]? =some x.val:=fun j x hx=>by rw[hvs,List.getElem?_map,hx];rfl
 rw[<- hvs] at hd
 have HV:=zh hva
 have HC:=zh hc
 have HD:=zh hd
 have hpl:=World.block_lt_of_cell? w _ hp
 obtain⟨i0,hi,hz0,hz1,hz2⟩:=info_parts info_V
 clear hr hc hd hva hvs
 go_enter Tryz.func150,Tryz.ntmps150
 go_wp2
 go_loopw [11,6] (fun t v wr=>∃ j:Nat,j<=n/\t=.int .i64 j/\zAW (w.alloc zeroV) wr 44 5 v j (flat (vs.take j))) (fun t _ _=>n-(intOf t).toNat)
 case atStart=>exact⟨0,Nat.zero_le _,rfl,Below.refl _ _,World.ownsRow_nil _ _ _ _⟩
 case round =>
  obtain⟨j,hj,rfl,hR⟩:=hrel
  by_cases hlt:j<n
  ·obtain⟨x,hx⟩:∃ x,xs[j]? =some x:=⟨_,List.getElem?_eq_getElem (show j<xs.length by omega)⟩
   have hcell:∀ i u,x.cells[i]? =some u->wr.cell? ⟨b,off+(j*11+i),none⟩=some u:=fun i u hu=>by
    have h1:=HC.out _ u (zAb xs j x hx i u hu)
    have h2:=cltK h1
    exact(hR.1.cell (p:=⟨b,_,none⟩) (by simp;omega)).trans ((World.cell?_alloc_lt w _ _ h2).trans h1)
   have c0:=hcell 0 _ rfl
   have c1:=hcell 1 _ rfl
   have c2:=hcell 2 _ rfl
   have c3:=hcell 3 _ rfl
   have c4:=hcell 4 _ rfl
   have c5:=hcell 5 _ rfl
   have c6:=hcell 6 _ rfl
   have c7:=hcell 7 _ rfl
   have c8:=hcell 8 _ rfl
   have c9:=hcell 9 _ rfl
   have c10:=hcell 10 _ rfl
   simp only[<- Nat.add_assoc,Nat.add_zero] at c0 c1 c2 c3 c4 c5 c6 c7 c8 c9 c10
   have hvx:=zh (HV.out j x hx)
   have HR:=zh hR
   clear hcell hR
   go_wp2_with(at_builtin;refine wpList_append_own _ rfl _ _ 194 rfl (w.alloc zeroV).heap.size 44 i0 _ 5 48 Tryz.underlying194 hi hz0 hz1 hz2 rfl (by decide) _ _ _ rfl (own_below HR.out.2 bel) _ 1 1 x.val.cells rfl rfl ?_ ?_ ?_ ?_ ?_ ?_)
   ·exact fun i u hu=>zAe (by simp) i u hu
   ·exact cells_one _
   ·simp only[maxLen];omega
   ·omega
   ·have h1:=HR.out.1.size
    simp at h1 ⊢
    omega
   ·intro v' w1 hown' hgrow _
    have R:=zAW.step HR.out bel (show w1.ownsRow (w.alloc zeroV).heap.size 44 5 v' (j+1) (flat (vs.take j)++x.val.cells) from by simpa using hown') hgrow
    have ef:flat (vs.take j)++x.val.cells=flat (vs.take (j+1)):=by rw[zAn hvx.out,zC7];simp[flat]
    rw[ef] at R
    have HR':=zh R
    clear hown' hgrow R HR c0 c1 c2 c3 c4 c5 c6 c7 c8 c9 c10
    go_wp2
    go_roundw
    case rel=>exact⟨j+1,by omega,by go_num,HR'.out⟩
    case measure=>simp[intOf];omega
  ·obtain rfl:j=n:=by omega
   rw[List.take_of_length_le (by omega)] at hR
   obtain⟨hB,hO⟩:=hR
   obtain⟨g,c',rfl,hg,hgl,hH⟩:=own_form hO h0
   have HH:=zh (show Held wr g vs from hH)
   have HB:=zh ((show Below w.heap.size w (w.alloc zeroV) from bel).trans (hB.mono (by simp)))
   obtain⟨l0,q0,rfl⟩:=zA0 hB
   clear hO hH hB
   unfold zeroV at *
   go_wp2_with(with_reducible refine Calls.mono (HD.out _ g c' HB.out HH.out) ?_;rintro e w2 ⟨rfl,hb⟩;obtain⟨l,q,rfl⟩:=zA0 hb;clear hb)
   all_goals go_returns
   exact⟨rfl,bel⟩
end Go.Proofs.YtppghgnhlgoagaaGreatDoor
