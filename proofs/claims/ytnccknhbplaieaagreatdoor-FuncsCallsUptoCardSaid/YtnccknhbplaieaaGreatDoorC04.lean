/- Parts. -/
import Derived.Test.YtnccknhbplaieaaGreatDoorC03
set_option linter.all false
set_option maxRecDepth 100000
set_option maxHeartbeats 4000000
namespace Go.Proofs.YtnccknhbplaieaaGreatDoor
open Go Go.RowKit Go.Proofs.Tryz
open Go.Lib renaming hid->zh
def V.cells (v:V):List Value:=[.int .i64 v.tag,.int .i64 v.num,.string v.str,.bool v.is,.int .i64 v.code]
def flat (vs:List V):List Value:=vs.flatMap V.cells
theorem flat_cons (v:V) (vs:List V):flat (v::vs)=v.cells++flat vs:=rfl
theorem flat_length (vs:List V):(flat vs).length=vs.length*5:=by
 induction vs with
 | nil=>rfl
 | cons v vs ih=>rw[flat_cons,List.length_append,ih,List.length_cons];simp[V.cells];omega
theorem flat_at (vs:List V) (k:Nat) (v:V) (h:vs[k]? =some v) (j:Nat) (u:Value) (hu:v.cells[j]? =some u):(flat vs)[k*5+j]? =some u:=by
 induction vs generalizing k with
 | nil=>simp at h
 | cons x xs ih =>
   have hj:j<5:=(List.getElem?_eq_some_iff.1 hu).1;rw[flat_cons];cases k with
   | zero =>
     simp at h;subst h;rw[List.getElem?_append_left (by simp[V.cells];omega)]
     simpa using hu
   | succ k =>
     rw[List.getElem?_append_right (by simp[V.cells];omega)];have:=ih k (by simpa using h);have e:(k+1)*5+j-x.cells.length=k*5+j:=by simp[V.cells];omega
     rw[e];exact this
def Held (w:World) (g:Nat) (vs:List V):Prop:=∀ j u,(flat vs)[j]? =some u->w.cell? ⟨g,j,none⟩=some u
theorem Held.at {w:World} {g:Nat} {vs:List V} (h:Held w g vs) (k:Nat) (v:V) (hv:vs[k]? =some v) (j0 j1 j2 j3 j4:Nat) (e0:j0=k*5) (e1:j1=k*5+1) (e2:j2=k*5+2) (e3:j3=k*5+3) (e4:j4=k*5+4) :
  w.cell? ⟨g,j0,none⟩=some (.int .i64 v.tag)/\w.cell? ⟨g,j1,none⟩=some (.int .i64 v.num)/\w.cell? ⟨g,j2,none⟩=some (.string v.str)/\w.cell? ⟨g,j3,none⟩=some (.bool v.is)/\w.cell? ⟨g,j4,none⟩=some (.int .i64 v.code):=by
 subst e0 e1 e2 e3 e4;exact⟨h _ _ (flat_at vs k v hv 0 _ rfl),h _ _ (flat_at vs k v hv 1 _ rfl),h _ _ (flat_at vs k v hv 2 _ rfl),h _ _ (flat_at vs k v hv 3 _ rfl),h _ _ (flat_at vs k v hv 4 _ rfl)⟩
theorem Held.keeps {w w':World} {g:Nat} {vs:List V} (h:Held w g vs) (hk:Keeps w w'):Held w' g vs:=fun j u hu=>hk.cell _ _ _ (h j u hu)
def zAz:List V->V
 | x::y::zs=>if (zA7 x).2≠0 then errG (zA7 x).2 else if (zA7 x).1 then y else match zs with
   | [z]=>z
   | _=>zAa false
 | _=>errG 8
theorem funcs_choice2 (x y:V) (g c:Nat) (w:World) (h:Held w g [x,y]):Rt 131 #[.slice (some ⟨g,0,none⟩) 2 c] w (vG (zAz [x,y])):=by
 obtain⟨ha,hx1,hx2,hx3,hx4⟩:=h.at 0 x rfl 0 1 2 3 4 rfl rfl rfl rfl rfl;have hg:=cltK ha;obtain⟨hy0,hy1,hy2,hy3,hy4⟩:=h.at 1 y rfl 5 6 7 8 9 rfl rfl rfl rfl rfl;clear h;by_cases hc:(zA7 x).2=0
 by_cases hb:(zA7 x).1=true
 have e:zAz [x,y]=y:=by simp[zAz,hc,hb]
 rw[e];replace hc:((zA7 x).2 != 0)=false:=by simp[hc]
 rotate_left
 have e:zAz [x,y]=zAa false:=by simp[zAz,hc,hb]
 rw[e];replace hc:((zA7 x).2 != 0)=false:=by simp[hc]
 replace hb:(zA7 x).1=false:=by simpa using hb
 rotate_left
 have e:zAz [x,y]=errG (zA7 x).2:=by simp[zAz,hc]
 rw[e];replace hc:((zA7 x).2 != 0)=true:=by simp[hc]
 all_goals
  clear e;go_enter func131,ntmps131;go_wp2_with(first|(go_at_call 177;refine mB (zBZ _ _) ?_;intro l n)|(go_at_call 178;refine mB (value_Truth _ _) ?_;intro l n)|(go_at_call 13;refine mB (zA3 _ _) ?_;intro l n))
  all_goals go_returns;exact rb_
theorem funcs_choice3 (x y z:V) (g c:Nat) (w:World) (h:Held w g [x,y,z]):Rt 131 #[.slice (some ⟨g,0,none⟩) 3 c] w (vG (zAz [x,y,z])):=by
 obtain⟨ha,hx1,hx2,hx3,hx4⟩:=h.at 0 x rfl 0 1 2 3 4 rfl rfl rfl rfl rfl;have hg:=cltK ha;obtain⟨hy0,hy1,hy2,hy3,hy4⟩:=h.at 1 y rfl 5 6 7 8 9 rfl rfl rfl rfl rfl;obtain⟨hz0,hz1,hz2,hz3,hz4⟩:=h.at 2 z rfl 10 11 12 13 14 rfl rfl rfl rfl rfl;clear h;by_cases hc:(zA7 x).2=0
 by_cases hb:(zA7 x).1=true
 have e:zAz [x,y,z]=y:=by simp[zAz,hc,hb]
 rw[e];replace hc:((zA7 x).2 != 0)=false:=by simp[hc]
 rotate_left
 have e:zAz [x,y,z]=z:=by simp[zAz,hc,hb]
 rw[e];replace hc:((zA7 x).2 != 0)=false:=by simp[hc]
 replace hb:(zA7 x).1=false:=by simpa using hb
 rotate_left
 have e:zAz [x,y,z]=errG (zA7 x).2:=by simp[zAz,hc]
 rw[e];replace hc:((zA7 x).2 != 0)=true:=by simp[hc]
 all_goals
  clear e;go_enter func131,ntmps131;go_wp2_with(first|(go_at_call 177;refine mB (zBZ _ _) ?_;intro l n)|(go_at_call 178;refine mB (value_Truth _ _) ?_;intro l n)|(go_at_call 13;refine mB (zA3 _ _) ?_;intro l n))
  all_goals go_returns;exact rb_
def iferrG:List V->V
 | x::y::_=>if x.tag=4 then y else x
 | _=>errG 8
theorem funcs_iferr (x y:V) (g c:Nat) (w:World) (h:Held w g [x,y]):Rt 137 #[.slice (some ⟨g,0,none⟩) 2 c] w (vG (iferrG [x,y])):=by
 obtain⟨ha,hx1,hx2,hx3,hx4⟩:=h.at 0 x rfl 0 1 2 3 4 rfl rfl rfl rfl rfl;have hg:=cltK ha;obtain⟨hy0,hy1,hy2,hy3,hy4⟩:=h.at 1 y rfl 5 6 7 8 9 rfl rfl rfl rfl rfl;clear h;by_cases ht:x.tag=4
 ·have e:iferrG [x,y]=y:=by simp[iferrG,ht]
  rw[e];replace ht:(x.tag==4)=true:=by simp[ht]
  clear e;go_enter func137,ntmps137;go_wp2_with(first|fail)
  all_goals go_returns;exact rb_
 ·have e:iferrG [x,y]=x:=by simp[iferrG,ht]
  rw[e];replace ht:(x.tag==4)=false:=by simp[ht]
  clear e;go_enter func137,ntmps137;go_wp2_with(first|fail)
  all_goals go_returns;exact rb_
def typeG (x:V):V:=numG (x.tag*10000)
theorem funcs_type (x:V) (h0:0<=x.tag) (h4:x.tag<=4) (g c:Nat) (w:World) (h:Held w g [x]):Rt 139 #[.slice (some ⟨g,0,none⟩) 1 c] w (vG (typeG x)):=by
 obtain⟨ha,hx1,hx2,hx3,hx4⟩:=h.at 0 x rfl 0 1 2 3 4 rfl rfl rfl rfl rfl;have hg:=cltK ha;clear h;go_enter func139,ntmps139;go_wp2_with(go_at_call 140;refine mB (zB2 _ _) ?_;intro l n)
 all_goals go_returns;exact rb_
theorem funcs_ask (x:V) (g c:Nat) (w:World):Rt 144 #[.slice (some ⟨g,0,none⟩) 1 c] w (vG (errG 8)):=by
 go_enter func144,ntmps144;go_wp2_with(go_at_call 13;refine mB (zA3 _ _) ?_;intro l n)
 all_goals go_returns;exact rb_
def errnoG (x:V):V:=if x.tag=4 then numG (x.code*10000) else errG 8
theorem funcs_errno (x:V) (h0:x.tag=4->isCode x.code=true) (g c:Nat) (w:World) (h:Held w g [x]):Rt 141 #[.slice (some ⟨g,0,none⟩) 1 c] w (vG (errnoG x)):=by
 obtain⟨ha,hx1,hx2,hx3,hx4⟩:=h.at 0 x rfl 0 1 2 3 4 rfl rfl rfl rfl rfl;have hg:=cltK ha;clear h;by_cases ht:x.tag=4
 ·have hc:=h0 ht;have e:errnoG x=numG (x.code*10000):=by simp[errnoG,ht]
  rw[e];simp only[isCode,Bool.and_eq_true,decide_eq_true_eq] at hc;obtain⟨hc0,hc1⟩:=hc;replace ht:(x.tag != 4)=false:=by simp[ht]
  clear e h0;go_enter func141,ntmps141;go_wp2_with(go_at_call 140;refine mB (zB2 _ _) ?_;intro l n)
  all_goals go_returns;exact rb_
 ·have e:errnoG x=errG 8:=by simp[errnoG,ht]
  rw[e];replace ht:(x.tag != 4)=true:=by simp[ht]
  clear e h0;go_enter func141,ntmps141;go_wp2_with(go_at_call 13;refine mB (zA3 _ _) ?_;intro l n)
  all_goals go_returns;exact rb_
theorem funcs_is1 (t:Int) (x:V) (p g c:Nat) (w:World) (hp:w.cell? ⟨p,0,none⟩=some (.int .i64 t)) (h:Held w g [x]):Rt 182 #[.slice (some ⟨g,0,none⟩) 1 c,.pointer (some ⟨p,0,none⟩)] w (vG (zAa (x.tag==t))):=by
 obtain⟨ha,hb,hc,hd,he⟩:=h.at 0 x rfl 0 1 2 3 4 rfl rfl rfl rfl rfl;have hg:=cltK ha;have hpl:=cltK hp;clear h hb hc hd he;go_enter func182,ntmps182;go_wp2
 go_region_held3 (fun w'=>w'.cell? ⟨p,0,none⟩=some (.int .i64 t)/\w'.cell? ⟨g,0,none⟩=some (.int .i64 x.tag)) (first|go_keep|((try dsimp only[vG]);refine⟨?_,?_⟩<;>first|go_keep|(rw[more_cell (by simp;omega)];assumption)|(rw[more_cell (by simp;omega)];go_simp;done))) (first|(go_at_call 178;refine mB (value_Truth _ _) ?_;intro l n))
 all_goals go_wp2;all_goals(go_returns;exact rb_)
def zAI (v:V):Int×Int:=if (zA5 v).2≠0 then (0,(zA5 v).2) else if (zAF (zA5 v).1).2 then ((zAF (zA5 v).1).1,0) else (0,8)
theorem asNum_range {v:V} (hlo: -9223372036854775808<=v.num) (hhi:v.num<=9223372036854775807): -9223372036854775808<=(zA5 v).1/\(zA5 v).1<=9223372036854775807:=by
 unfold zA5
 repeat' split
 all_goals(dsimp only[vG];omega)
theorem zBd (v:V) (hlo: -9223372036854775808<=v.num) (hhi:v.num<=9223372036854775807) (w:World):Rt 183 #[(vG v)] w (.tuple #[.int .i64 (zAI v).1,.int .i64 (zAI v).2]):=by
 obtain⟨hlo,hhi⟩:=asNum_range hlo hhi;by_cases hc:(zA5 v).2=0
 by_cases hw:(zAF (zA5 v).1).2=true
 have e:zAI v=((zAF (zA5 v).1).1,0):=by simp[zAI,hc,hw]
 rw[e];replace hc:((zA5 v).2 != 0)=false:=by simp[hc]
 rotate_left
 have e:zAI v=(0,8):=by simp[zAI,hc,hw]
 rw[e];replace hc:((zA5 v).2 != 0)=false:=by simp[hc]
 replace hw:(zAF (zA5 v).1).2=false:=by simpa using hw
 rotate_left
 have e:zAI v=(0,(zA5 v).2):=by simp[zAI,hc]
 rw[e];replace hc:((zA5 v).2 != 0)=true:=by simp[hc]
 all_goals
  clear e;go_enter func183,ntmps183;go_wp2_with(first|(go_at_call 148;refine mB (zBX _ _) ?_;intro l n)|(go_at_call 152;refine(zB0 _ hlo hhi _).mono ?_;rintro e w1 ⟨rfl,rfl⟩))
  go_ret2
  exact rb_
def faultG (x:V):V:=errG (if (zAI x).2=0 then if 1<(zAI x).1/\(zAI x).1<=8 then (zAI x).1 else 8 else (zAI x).2)
theorem funcs_fault (x:V) (hlo: -9223372036854775808<=x.num) (hhi:x.num<=9223372036854775807) (g c:Nat) (w:World) (h:Held w g [x]):Rt 142 #[.slice (some ⟨g,0,none⟩) 1 c] w (vG (faultG x)):=by
 obtain⟨ha,hx1,hx2,hx3,hx4⟩:=h.at 0 x rfl 0 1 2 3 4 rfl rfl rfl rfl rfl;have hg:=cltK ha;clear h;by_cases hc:(zAI x).2=0
 by_cases h1:1<(zAI x).1
 by_cases h8:(zAI x).1<=8
 have e:faultG x=errG (zAI x).1:=by simp[faultG,hc,h1,h8]
 rw[e];replace hc:((zAI x).2==0)=true:=by simp[hc]
 rotate_left
 have e:faultG x=errG 8:=by simp[faultG,hc,h8]
 rw[e];replace hc:((zAI x).2==0)=true:=by simp[hc]
 rotate_left
 have e:faultG x=errG 8:=by simp[faultG,hc,h1]
 rw[e];replace hc:((zAI x).2==0)=true:=by simp[hc]
 rotate_left
 have e:faultG x=errG (zAI x).2:=by simp[faultG,hc]
 rw[e];replace hc:((zAI x).2==0)=false:=by simp[hc]
 all_goals
  clear e;go_enter func142,ntmps142;go_wp2_with(first|(go_at_call 183;refine mB (zBd _ hlo hhi _) ?_;intro l n)|(go_at_call 13;refine mB (zA3 _ _) ?_;intro l n))
  all_goals go_returns;exact rb_
def chooseG:List V->V
 | x::vs=>if (zAI x).2≠0 then errG (zAI x).2 else if 1<=(zAI x).1/\(zAI x).1<=vs.length then vs.getD ((zAI x).1.toNat-1) (errG 8) else errG 5
 | _=>errG 8
theorem funcs_choose (x:V) (vs:List V) (hlo: -9223372036854775808<=x.num) (hhi:x.num<=9223372036854775807) (g c:Nat) (hl:vs.length<=1000000) (w:World) (h:Held w g (x::vs)):Rt 143 #[.slice (some ⟨g,0,none⟩) (vs.length+1) c] w (vG (chooseG (x::vs))):=by
 obtain⟨hd,hx1,hx2,hx3,hx4⟩:=h.at 0 x rfl 0 1 2 3 4 rfl rfl rfl rfl rfl;have hg:=cltK hd;have H:=zh h;clear h;by_cases hc:(zAI x).2=0
 by_cases h1:1<=(zAI x).1
 by_cases h8:(zAI x).1<=vs.length
 ·obtain⟨i,hi⟩:∃ i:Nat,(zAI x).1=((i+1:Nat):Int):=⟨(zAI x).1.toNat-1,by omega⟩
  have hb:i<vs.length:=by omega
  obtain⟨v,hv⟩:∃ v,vs[i]? =some v:=⟨_,List.getElem?_eq_getElem hb⟩
  have e:chooseG (x::vs)=v:=by
   have ha:(i:Int)+1<=vs.length:=by omega
   simp[chooseG,hc,hi,hv,ha];omega
  rw[e];obtain⟨hv0,hv1,hv2,hv3,hv4⟩:=H.out.at (i+1) v (by simpa using hv) _ _ _ _ _ rfl rfl rfl rfl rfl;have hI:∀ w,Rt 183 #[(vG x)] w (.tuple #[.int .i64 ((i+1:Nat):Int),.int .i64 0]):=fun w=>by
   have:=zBd x hlo hhi w;rw[hi,hc] at this;exact this
  have HI:=zh hI;clear e hc hi h1 h8 hI hv;go_enter func143,ntmps143;go_wp2_with(go_at_call 183;refine mB (HI.out _) ?_;intro l n)
  all_goals go_returns;exact rb_
 have e:chooseG (x::vs)=errG 5:=by simp[chooseG,hc,h8]
 rw[e];replace hc:((zAI x).2 != 0)=false:=by simp[hc]
 rotate_left
 have e:chooseG (x::vs)=errG 5:=by simp[chooseG,hc,h1]
 rw[e];replace hc:((zAI x).2 != 0)=false:=by simp[hc]
 rotate_left
 have e:chooseG (x::vs)=errG (zAI x).2:=by simp[chooseG,hc]
 rw[e];replace hc:((zAI x).2 != 0)=true:=by simp[hc]
 all_goals
  clear e H;go_enter func143,ntmps143;go_wp2_with(first|(go_at_call 183;refine mB (zBd _ hlo hhi _) ?_;intro l n)|(go_at_call 13;refine mB (zA3 _ _) ?_;intro l n))
  all_goals go_returns;exact rb_
end Go.Proofs.YtnccknhbplaieaaGreatDoor
