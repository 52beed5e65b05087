/- Parts. -/
import Derived.Test.YtnccknhbplaieaaGreatDoorC42
import Derived.Test.YtnccknhbplaieaaGreatDoorC47
set_option linter.all false
set_option maxRecDepth 100000
set_option maxHeartbeats 4000000
namespace Go.Proofs.YtnccknhbplaieaaGreatDoor
open Go Go.RowKit Go.Proofs.Tryz
open Go.Lib renaming hid->zh
open Go.IntKind renaming wrap_i64->Q3,i64->Q4
open _root_.Nat renaming lt_of_lt_of_le->Q5,add_zero->Q7,lt_succ_of_lt->Q8,le_add_right->Q9
open _root_.List renaming getElem?_eq_getElem->QA,getElem?_map->QB
open _root_.Bool renaming and_eq_true->QC
theorem int_is (v:V):zAI v=intG v:=by
 unfold zAI intG;split
 ·rfl
 ·cases h:(zAF (zA5 v).1).2<;>simp
theorem fault_is {v:V} (hm:mayG v=true) (h4:v.tag=4):isCode v.code=true/\v=errG v.code:=by
 obtain⟨t,n,s,i,c⟩:=v;simp only at h4;subst h4;unfold mayG at hm;simp only[QC] at hm;have h1:=hm.1.2;unfold eqB at h1;have h2:=of_decide_eq_true h1;unfold bareG at h2;simp only[V.mk.injEq] at h2;have hc:isCode c=true:=by simpa using hm.2
 refine⟨hc,?_⟩;unfold errG errC;simp only[hc,if_true,V.mk.injEq,true_and,and_true];simp at h2;simp[h2]
theorem r11_integer (v:V) (h:Is64 v.num) (w:World):Rt 70 #[(vG v)] w (.tuple #[.int .i64 (intG v).1,(vG (if (intG v).2=0 then zeroG else errG (intG v).2))]):=by
 have hc:=asNum_63 v h;obtain⟨x,hx⟩:=lt_ ((zA5 v).1);obtain⟨cd,he⟩:=lt_ ((zA5 v).2);have HA:=zh (fun W=>(show Rt 37 #[(vG v)] W (.tuple #[.int .i64 x,.int .i64 cd]) by have:=r2_AsNumber v h.1 W;rw[hx,he] at this;exact this));unfold intG;rw[hx,he];rw[hx] at hc;rw[whole_in hc];have hb:Is64 (x.tmod 10000):=mod_word hc.to64 (by unfold Is64;decide) (by decide);have ha:Is64 (x.tdiv 10000):=by
  have h1:(x.tdiv 10000).natAbs=x.natAbs / 10000:=Int.natAbs_tdiv x 10000;have h2:x.natAbs / 10000<=x.natAbs:=Nat.div_le_self _ _;unfold In63 at hc;unfold Is64;omega
 obtain⟨r,hr⟩:=lt_ (x.tmod 10000);obtain⟨d,hd⟩:=lt_ (x.tdiv 10000);rw[hr,hd];rw[hr] at hb;rw[hd] at ha;unfold Is64 at hb ha;have v1:=zBN (x:=r) (by omega) (by omega);have v2:=zBN (x:=d) (by omega) (by omega);have u1:=zAS (x:=r) (by omega) (by omega);have u2:=zAS (x:=d) (by omega) (by omega);clear hx he h hc hb ha;by_cases hc0:cd=0
 subst hc0;rw[if_neg (by simp)];by_cases hr0:r=0
 ·subst hr0;rw[if_pos rfl,if_neg (by simp),if_pos rfl];clear u1 v1;go_enter func70,ntmps70;go_wp2_with((go_at_call 37;refine mB (HA.out _) ?_;intro l2 q2))
  all_goals(go_returns;exact rb_)
 rw[if_neg hr0,if_pos rfl,if_neg (by decide)];have hi:(r==0)=false:=by simpa using hr0
 have hj:decide (r=0)=false:=decide_eq_false hr0;have hk:(r != 0)=true:=by simpa using hr0
 rotate_left
 rw[if_pos hc0,if_neg hc0];have hf:(cd==0)=false:=by simpa using hc0
 have hg:decide (cd=0)=false:=decide_eq_false hc0;have hh:(cd != 0)=true:=by simpa using hc0
 all_goals
  go_enter func70,ntmps70;go_wp2_with(first|(go_at_call 37;refine mB (HA.out _) ?_;intro l2 q2)|(go_at_call 22;refine mB (zA6 _ _) ?_;intro l5 q5))
  clear v1 v2 u1 u2;all_goals(go_returns;exact rb_)
theorem tag_ISERR (v:V) (w:World):Rt 25 #[.string (⟨#[73,83,69,82,82]⟩:ByteArray),(vG v)] w (vG (zAa (v.tag==4))):=by
 obtain⟨b,hb⟩:=lt_ (v.tag==4);rw[hb];go_enter func25,ntmps25;go_wp2_with((go_at_call 50;refine mB (r2_Truth _ _) ?_;intro l6 q6))
 all_goals(go_returns;exact rb_)
theorem tag_ISBLANK (v:V) (w:World):Rt 25 #[.string (⟨#[73,83,66,76,65,78,75]⟩:ByteArray),(vG v)] w (vG (zAa (v.tag==0))):=by
 obtain⟨b,hb⟩:=lt_ (v.tag==0);rw[hb];go_enter func25,ntmps25;go_wp2_with((go_at_call 50;refine mB (r2_Truth _ _) ?_;intro l6 q6))
 all_goals(go_returns;exact rb_)
theorem tag_ISNUM (v:V) (w:World):Rt 25 #[.string (⟨#[73,83,78,85,77]⟩:ByteArray),(vG v)] w (vG (zAa (v.tag==1))):=by
 obtain⟨b,hb⟩:=lt_ (v.tag==1);rw[hb];go_enter func25,ntmps25;go_wp2_with((go_at_call 50;refine mB (r2_Truth _ _) ?_;intro l6 q6))
 all_goals(go_returns;exact rb_)
theorem tag_ISTEXT (v:V) (w:World):Rt 25 #[.string (⟨#[73,83,84,69,88,84]⟩:ByteArray),(vG v)] w (vG (zAa (v.tag==2))):=by
 obtain⟨b,hb⟩:=lt_ (v.tag==2);rw[hb];go_enter func25,ntmps25;go_wp2_with((go_at_call 50;refine mB (r2_Truth _ _) ?_;intro l6 q6))
 all_goals(go_returns;exact rb_)
theorem tag_ISBOOL (v:V) (w:World):Rt 25 #[.string (⟨#[73,83,66,79,79,76]⟩:ByteArray),(vG v)] w (vG (zAa (v.tag==3))):=by
 obtain⟨b,hb⟩:=lt_ (v.tag==3);rw[hb];go_enter func25,ntmps25;go_wp2_with((go_at_call 50;refine mB (r2_Truth _ _) ?_;intro l6 q6))
 all_goals(go_returns;exact rb_)
theorem tag_TYPE (v:V) (h0:0<=v.tag) (h4:v.tag<=4) (w:World):Rt 25 #[.string (⟨#[84,89,80,69]⟩:ByteArray),(vG v)] w (vG (typeG v)):=by
 have HN:=zh (zAw (v.tag*10000) (by unfold Is64;omega));have w1:Q4.wrap (v.tag*10000)=v.tag*10000:=by rw[Q3];omega
 unfold typeG;obtain⟨R,hR⟩:=lt_ (numG (v.tag*10000));rw[hR] at HN ⊢;clear hR h0 h4;go_enter func25,ntmps25;go_wp2_with((go_at_call 39;refine mB (HN.out _) ?_;intro l6 q6))
 clear w1;all_goals(go_returns;exact rb_)
theorem tag_ERRNO (v:V) (h0:v.tag=4->isCode v.code=true) (w:World):Rt 25 #[.string (⟨#[69,82,82,78,79]⟩:ByteArray),(vG v)] w (vG (errnoG v)):=by
 unfold errnoG;by_cases h4:v.tag=4
 ·have hc:=h0 h4;unfold isCode at hc;simp only[QC,decide_eq_true_eq] at hc;have HN:=zh (zAw (v.code*10000) (by unfold Is64;omega));have w1:Q4.wrap (v.code*10000)=v.code*10000:=by rw[Q3];omega
  rw[if_pos h4];obtain⟨R,hR⟩:=lt_ (numG (v.code*10000));rw[hR] at HN ⊢;have ha:(v.tag==4)=true:=by simp[h4]
  have hb:(v.tag != 4)=false:=by simp[h4]
  clear hR h0 hc h4;go_enter func25,ntmps25;go_wp2_with((go_at_call 39;refine mB (HN.out _) ?_;intro l6 q6))
  clear w1;all_goals(go_returns;exact rb_)
 ·rw[if_neg h4];have ha:(v.tag==4)=false:=by simp[h4]
  have hb:(v.tag != 4)=true:=by simp[h4]
  clear h4 h0;go_enter func25,ntmps25;go_wp2_with((go_at_call 22;refine mB (zA6 _ _) ?_;intro l5 q5))
  all_goals(go_returns;exact rb_)
theorem chosen_fault (s:ByteArray) (a0:Arg) (b off n c:Nat) (hn:0<n) (w:World) (hc0:∀ i u,a0.cells[i]? =some u->w.cell? ⟨b,off+0+i,none⟩=some u) (h4:a0.val.tag=4) :
  Rt 23 #[.string s,.slice (some ⟨b,off,none⟩) n c] w (vG (a0.val)):=by
 obtain⟨c0x1,c0x2,c0x3,c0x4,c0x5⟩:=tkV hc0;simp only[Q7] at c0x1 c0x2 c0x3 c0x4 c0x5;have hb:=cltK c0x1;have hb1:b<w.heap.size+1:=by omega
 have hb2:b<w.heap.size+1+1:=by omega
 have h4':(a0.val.tag==4)=true:=by simp[h4]
 clear h4 hc0;go_enter func23,ntmps23;go_wp2;all_goals(go_returns;exact rb_)
theorem chosen_IF2 (a0 a1:Arg) (b off c:Nat) (w:World) (hc0:∀ i u,a0.cells[i]? =some u->w.cell? ⟨b,off+0+i,none⟩=some u) (hc1:∀ i u,a1.cells[i]? =some u->w.cell? ⟨b,off+11+i,none⟩=some u) (h4: ¬ a0.val.tag=4) (h64:Is64 a0.val.num) :
  Rt 23 #[.string (⟨#[73,70]⟩:ByteArray),.slice (some ⟨b,off,none⟩) 2 c] w (vG (zAz [a0.val,a1.val])):=by
 obtain⟨c0x1,c0x2,c0x3,c0x4,c0x5⟩:=tkV hc0;simp only[Q7] at c0x1 c0x2 c0x3 c0x4 c0x5;obtain⟨c1x1,c1x2,c1x3,c1x4,c1x5⟩:=tkV hc1;have hb:=cltK c0x1;have hb1:b<w.heap.size+1:=by omega
 have hb2:b<w.heap.size+1+1:=by omega
 have h4':(a0.val.tag==4)=false:=by simp[h4]
 clear h4 hc0 hc1;have HB:=zh (r2_AsBool a0.val h64.1);obtain⟨x,hx⟩:=lt_ ((zA7 a0.val).1);obtain⟨cx,ha⟩:=lt_ ((zA7 a0.val).2);rw[hx,ha] at HB;have e1:zAz [a0.val,a1.val]=if cx≠0 then errG cx else if x=true then a1.val else zAa false:=by rw[<- hx,<-ha];rfl
 rw[e1];clear e1 hx ha h64;by_cases hc1:cx=0
 subst hc1;rw[if_neg (by simp)];cases x;rw[if_neg (by decide)]
 rotate_left
 rw[if_pos rfl]
 rotate_left
 rw[if_pos hc1];have hc:(cx==0)=false:=by simpa using hc1
 have hd:decide (cx=0)=false:=decide_eq_false hc1;have he:(cx != 0)=true:=by simpa using hc1
 all_goals
  go_enter func23,ntmps23;go_wp2_with(first|(go_at_call 69;refine mB (HB.out _) ?_;intro l2 q2)|(go_at_call 50;refine mB (r2_Truth _ _) ?_;intro l6 q6)|(go_at_call 22;refine mB (zA6 _ _) ?_;intro l5 q5))
  all_goals(go_returns;exact rb_)
theorem chosen_IF3 (a0 a1 a2:Arg) (b off c:Nat) (w:World) (hc0:∀ i u,a0.cells[i]? =some u->w.cell? ⟨b,off+0+i,none⟩=some u) (hc1:∀ i u,a1.cells[i]? =some u->w.cell? ⟨b,off+11+i,none⟩=some u) (hc2:∀ i u,a2.cells[i]? =some u->w.cell? ⟨b,off+22+i,none⟩=some u) (h4: ¬ a0.val.tag=4) (h64:Is64 a0.val.num) :
  Rt 23 #[.string (⟨#[73,70]⟩:ByteArray),.slice (some ⟨b,off,none⟩) 3 c] w (vG (zAz [a0.val,a1.val,a2.val])):=by
 obtain⟨c0x1,c0x2,c0x3,c0x4,c0x5⟩:=tkV hc0;simp only[Q7] at c0x1 c0x2 c0x3 c0x4 c0x5;obtain⟨c1x1,c1x2,c1x3,c1x4,c1x5⟩:=tkV hc1;obtain⟨c2x1,c2x2,c2x3,c2x4,c2x5⟩:=tkV hc2;have hb:=cltK c0x1;have hb1:b<w.heap.size+1:=by omega
 have hb2:b<w.heap.size+1+1:=by omega
 have h4':(a0.val.tag==4)=false:=by simp[h4]
 clear h4 hc0 hc1 hc2;have HB:=zh (r2_AsBool a0.val h64.1);obtain⟨x,hx⟩:=lt_ ((zA7 a0.val).1);obtain⟨cx,ha⟩:=lt_ ((zA7 a0.val).2);rw[hx,ha] at HB;have e1:zAz [a0.val,a1.val,a2.val]=if cx≠0 then errG cx else if x=true then a1.val else a2.val:=by rw[<- hx,<-ha];rfl
 rw[e1];clear e1 hx ha h64;by_cases hc1:cx=0
 subst hc1;rw[if_neg (by simp)];cases x;rw[if_neg (by decide)]
 rotate_left
 rw[if_pos rfl]
 rotate_left
 rw[if_pos hc1];have hc:(cx==0)=false:=by simpa using hc1
 have hd:decide (cx=0)=false:=decide_eq_false hc1;have he:(cx != 0)=true:=by simpa using hc1
 all_goals
  go_enter func23,ntmps23;go_wp2_with(first|(go_at_call 69;refine mB (HB.out _) ?_;intro l2 q2)|(go_at_call 22;refine mB (zA6 _ _) ?_;intro l5 q5))
  all_goals(go_returns;exact rb_)
theorem chosen_NOT (a0:Arg) (b off c:Nat) (w:World) (hc0:∀ i u,a0.cells[i]? =some u->w.cell? ⟨b,off+0+i,none⟩=some u) (h4: ¬ a0.val.tag=4) (h64:Is64 a0.val.num) :
  Rt 23 #[.string (⟨#[78,79,84]⟩:ByteArray),.slice (some ⟨b,off,none⟩) 1 c] w (vG (if (zA7 a0.val).2≠0 then errG (zA7 a0.val).2 else zAa (!(zA7 a0.val).1))):=by
 obtain⟨c0x1,c0x2,c0x3,c0x4,c0x5⟩:=tkV hc0;simp only[Q7] at c0x1 c0x2 c0x3 c0x4 c0x5;have hb:=cltK c0x1;have hb1:b<w.heap.size+1:=by omega
 have hb2:b<w.heap.size+1+1:=by omega
 have h4':(a0.val.tag==4)=false:=by simp[h4]
 clear h4 hc0;have HB:=zh (r2_AsBool a0.val h64.1);obtain⟨x,hx⟩:=lt_ ((zA7 a0.val).1);obtain⟨cx,ha⟩:=lt_ ((zA7 a0.val).2);rw[hx,ha] at HB;rw[hx,ha];clear hx ha h64;by_cases hc1:cx=0
 subst hc1;rw[if_neg (by simp)];cases x
 rotate_left
 rotate_left
 rw[if_pos hc1];have hc:(cx==0)=false:=by simpa using hc1
 have hd:decide (cx=0)=false:=decide_eq_false hc1;have he:(cx != 0)=true:=by simpa using hc1
 all_goals
  go_enter func23,ntmps23;go_wp2_with(first|(go_at_call 69;refine mB (HB.out _) ?_;intro l2 q2)|(go_at_call 50;refine mB (r2_Truth _ _) ?_;intro l6 q6)|(go_at_call 22;refine mB (zA6 _ _) ?_;intro l5 q5))
  all_goals(go_returns;exact rb_)
theorem chosen_ERR (a0:Arg) (b off c:Nat) (w:World) (hc0:∀ i u,a0.cells[i]? =some u->w.cell? ⟨b,off+0+i,none⟩=some u) (h4: ¬ a0.val.tag=4) (h64:Is64 a0.val.num) :
  Rt 23 #[.string (⟨#[69,82,82]⟩:ByteArray),.slice (some ⟨b,off,none⟩) 1 c] w (vG (faultG a0.val)):=by
 obtain⟨c0x1,c0x2,c0x3,c0x4,c0x5⟩:=tkV hc0;simp only[Q7] at c0x1 c0x2 c0x3 c0x4 c0x5;have hb:=cltK c0x1;have hb1:b<w.heap.size+1:=by omega
 have hc:b<w.heap.size+1+1:=by omega
 have h4':(a0.val.tag==4)=false:=by simp[h4]
 clear h4 hc0;unfold faultG;rw[int_is];have HI:=zh (r11_integer a0.val h64);obtain⟨x,hx⟩:=lt_ ((intG a0.val).1);obtain⟨cx,ha⟩:=lt_ ((intG a0.val).2);rw[hx,ha] at HI;rw[hx,ha];clear hx ha h64;have z4:(zeroG.tag==4)=false:=rfl;by_cases hc1:cx=0
 subst hc1;rw[if_pos rfl] at HI ⊢;by_cases k1:1<x
 by_cases k2:x<=8
 rw[if_pos ⟨k1,k2⟩];have m1:decide (x<2)=false:=decide_eq_false (by omega);have m2:decide (8<x)=false:=decide_eq_false (by omega);have m3:Q4.wrap x=x:=by rw[Q3];omega
 have m4:wrap64 x=x:=by clear m3;unfold wrap64;omega
 have m5: ¬ x<2:=by clear m3 m4;omega
 have m6: ¬ 8<x:=by clear m3 m4;omega
 clear k1 k2
 rotate_left
 rw[if_neg (by omega)];have m1:decide (x<2)=false:=decide_eq_false (by omega);have m2:8<x:=by omega
 have m5: ¬ x<2:=by omega
 clear k1 k2
 rotate_left
 rw[if_neg (by omega)];have m1:x<2:=by omega
 clear k1
 rotate_left
 rw[if_neg hc1] at HI ⊢;obtain⟨f,hf⟩:=lt_ (errG cx);have hf4:(f.tag==4)=true:=by rw[<- hf];rfl
 rw[hf] at HI ⊢;clear hf hc1;all_goals
  go_enter func23,ntmps23;go_wp2_with(first|(go_at_call 70;refine mB (HI.out _) ?_;intro l2 q2;have gs0:=bl0 w.heap.size l2.length;have gs1:=Q8 gs0;have gb3:b<w.heap.size+1+1+l2.length:=Q5 hc (Q9 _ _))|(go_at_call 22;refine mB (zA6 _ _) ?_;intro l5 q5))
  exact bodyPost_ret (by simp[results,results23,go_sem,gs0,gs1];try rfl) rfl ⟨rfl,bel⟩
theorem chosen_CHOOSE (a0:Arg) (al:List Arg) (A:Option Addr) (n c:Nat) (w:World) (hr:Reads w w.heap.size 11 A n (zAY (a0::al))) (hm:n<=1000) (h4: ¬ a0.val.tag=4) (h64:Is64 a0.val.num) :
  Rt 23 #[.string (⟨#[67,72,79,79,83,69]⟩:ByteArray),.slice A n c] w (vG (chooseG ((a0::al).map Arg.val))):=by
 have hd:al.length+1=n:=by
  have:=hr.1;rw[zAN,List.length_cons] at this;omega
 have h4':(a0.val.tag==4)=false:=by simp[h4]
 have z4:(zeroG.tag==4)=false:=rfl;obtain⟨b,o,rfl,hb,hj0,-,c0x1,c0x2,c0x3,c0x4,c0x5,-,-,-,-,-⟩:=arg_at hr (j:=0) rfl;simp only[Nat.zero_mul,Q7] at c0x1 c0x2 c0x3 c0x4 c0x5;have hb1:b<w.heap.size+1:=by omega
 have he:b<w.heap.size+1+1:=by omega
 have HI:=zh (r11_integer a0.val h64);obtain⟨x,hx⟩:=lt_ ((intG a0.val).1);obtain⟨cx,hc⟩:=lt_ ((intG a0.val).2);rw[hx,hc] at HI;have e1:chooseG ((a0::al).map Arg.val)=if cx≠0 then errG cx else if 1<=x/\x<=(al.map Arg.val).length then (al.map Arg.val).getD (x.toNat-1) (errG 8) else errG 5:=by
  rw[<- hx,<-hc,<-int_is]
  rfl
 rw[e1,List.length_map];clear e1 hx hc h64 h4;by_cases hc1:cx=0
 subst hc1;rw[if_pos rfl] at HI;rw[if_neg (by simp)];by_cases k1:1<=x/\x<=(al.length:Int)
 rw[if_pos k1];obtain⟨i,hi⟩:∃ i:Nat,x=((i+1:Nat):Int):=⟨x.toNat-1,by omega⟩
 have hg:i<al.length:=by omega
 obtain⟨a,ha⟩:∃ a,al[i]? =some a:=⟨_,QA hg⟩
 rw[show (al.map Arg.val).getD (x.toNat-1) (errG 8)=a.val by
  rw[hi,Int.toNat_natCast,Nat.add_sub_cancel,List.getD_eq_getElem?_getD,QB,ha];rfl]
 obtain⟨b',o',e,-,hh,-,d1,d2,d3,d4,d5,-,-,-,-,-⟩:=arg_at hr (j:=i+1) (a:=a) ha;simp only[Option.some.injEq,Addr.mk.injEq,and_true] at e;obtain⟨rfl,rfl⟩:=e;subst hi;have m1:decide ((((i+1:Nat):Int))<1)=false:=decide_eq_false (by omega);have m2:decide ((n:Int)<=((i+1:Nat):Int))=false:=decide_eq_false (by omega);have m3: ¬ (((i+1:Nat):Int))<1:=by omega
 have m4: ¬ (n:Int)<=((i+1:Nat):Int):=by omega
 have m5:i+1<n:=hh;have m6:Q4.wrap (n:Int)=(n:Int):=by rw[Q3];omega
 clear k1 ha hr hd
 rotate_left
 rw[if_neg k1];have m6:Q4.wrap (n:Int)=(n:Int):=by rw[Q3];omega
 by_cases k2:x<1
 clear k1 hr
 rotate_left
 have m1:decide (x<1)=false:=decide_eq_false k2;have m2:(n:Int)<=x:=by clear m6;omega
 clear k1 hr
 rotate_left
 rw[if_pos hc1];rw[if_neg hc1] at HI;obtain⟨f,hf⟩:=lt_ (errG cx);have hf4:(f.tag==4)=true:=by rw[<- hf];rfl
 rw[hf] at HI ⊢;clear hf hc1 hr;all_goals
  go_enter func23,ntmps23;go_wp2_with(first|(go_at_call 70;refine mB (HI.out _) ?_;intro l2 q2;have gs0:=bl0 w.heap.size l2.length;have gs1:=Q8 gs0;have gb3:b<w.heap.size+1+1+l2.length:=Q5 he (Q9 _ _))|(go_at_call 22;refine mB (zA6 _ _) ?_;intro l5 q5))
  exact bodyPost_ret (by simp[results,results23,go_sem,gs0,gs1];try rfl) rfl ⟨rfl,bel⟩
theorem args_flatR (w:World) (B:Nat) (A:Option Addr) (n:Nat) (al:List Arg) (hr:Reads w B 11 A n (zAY al)):al.length=n:=by
 have:=hr.1;rw[zAN] at this;omega
theorem truths_any (s:ByteArray) (fy:Nat->Nat->Bool) (hs:(s=(⟨#[65,78,68]⟩:ByteArray)/\fy=fyAnd)∨(s=(⟨#[79,82]⟩:ByteArray)/\fy=fyOr)∨(s=(⟨#[88,79,82]⟩:ByteArray)/\fy=fyXor)) (al:List Arg) (A:Option Addr) (n c:Nat) (w:World) (hr:Reads w w.heap.size 11 A n (zAY al)) (hm:n<=1000) (hno:zAU (al.map Arg.many)=false) (h64:∀ a∈al,Is64 a.val.num) :
  Rt 24 #[.string s,.slice A n c] w (vG (zBM fy (al.map Arg.val))):=by
 rcases hs with ⟨rfl,hf⟩|⟨rfl,hf⟩|⟨rfl,hf⟩
 all_goals
  have hC:=zh hf;clear hf;have hd:=args_flatR w _ A n al hr;have hg:=fun (W:World) (hB:Below w.heap.size w W)=>r8_Faulty al A n c W.heap.size W ((hr.below hB).lift hB.size) (by omega);rw[faulty_vals hno] at hg;have hw:=zh (fun (j:Nat) (a:Arg) (h:al[j]? =some a)=>(show (al.map Arg.val)[j]? =some a.val by rw[QB,h];rfl));have hl:=zh (show (al.map Arg.val).length=n by rw[List.length_map,hd]);have hA:=zh h64;obtain⟨R,hR⟩:=lt_ (zBM fy (al.map Arg.val));rw[hR];unfold zBM at hR;obtain⟨vs,hz⟩:=lt_ (al.map Arg.val);rw[hz] at hg hw hl hR;obtain⟨F,hF⟩:=lt_ (vs.find? isF);rw[show vs.find? (fun v=>v.tag==4)=F from hF] at hR;rw[hF] at hg;have HR:=zh hr;have hi:=zh hd;have hq:=zh hg;clear hr hd hg hno h64 hz hF;cases F with
  | some f =>
    have hD:R=f:=hR.symm;subst hD;clear hR;go_enter func24,ntmps24;go_wp2_with((go_at_call 36;refine mB (hq.out _ bel) ?_;intro l1 q1))
    all_goals(go_returns;exact rb_)
  | none =>
    have hu:=zh (show (match vs.find? (fun v=>(zA7 v).2 != 0) with
     | some v=>errG (zA7 v).2
     | none=>zAa (fy (vs.countP fun v=>(zA7 v).1) vs.length))=R from hR)
    clear hR;go_enter func24,ntmps24;go_wp2_with((go_at_call 36;refine mB (hq.out _ bel) ?_;intro l1 q1))
    go_loopw [8,7] (fun t x wr=>∃ (j p:Nat),j<=n/\t=.int .i64 (j:Int)/\x=.int .i64 (p:Int)/\RowKit.Hid ((vs.take j).find? (fun v=>(zA7 v).2 != 0)=none)/\RowKit.Hid ((vs.take j).countP (fun v=>(zA7 v).1)=p)/\∃ l q,wr=more ((more (w.alloc zObj) l1 q1).alloc (.cells #[.int .i64 zeroG.tag,.int .i64 zeroG.num,.string zeroG.str,.bool zeroG.is,.int .i64 zeroG.code] 29)) l q) (fun t _ _=>n-(intOf t).toNat)
    case atStart=>exact⟨0,0,Nat.zero_le _,rfl,rfl,zh rfl,zh rfl,zA0 (Below.refl _ _)⟩
    case round =>
     obtain⟨j,p,hj,rfl,rfl,HN,HP,l0,q0,rfl⟩:=hrel;have hpj:p<=j:=by rw[<- HP.out];exact countV_le
     have gs0:w.heap.size<w.heap.size+1+l1.length:=Q5 (Nat.lt_succ_self _) (Q9 _ _);have gs1:=Q8 gs0;by_cases hlt:j<n
     ·obtain⟨a,ha⟩:∃ a,al[j]? =some a:=⟨_,QA (show j<al.length by rw[hi.out];exact hlt)⟩
      obtain⟨b,o,rfl,hb,hjn,-,c1,c2,c3,c4,c5,-,-,-,-,-⟩:=arg_at HR.out ha;have hE:b<w.heap.size+1:=by omega
      have hG:b<w.heap.size+1+l1.length:=Q5 hE (Q9 _ _);have hb3:=Q8 hG;have hK:(j:Int)<(n:Int):=by omega
      have he:=zh (hw.out j a ha);have HB:=zh (r2_AsBool a.val (hA.out a (List.mem_of_getElem? ha)).1);have wj:Q4.wrap ((j:Int)+1)=((j+1:Nat):Int):=by rw[Q3];omega
      have wp:Q4.wrap ((p:Int)+1)=((p+1:Nat):Int):=by clear wj;rw[Q3];omega
      clear ha;obtain⟨v,hv⟩:∃ v,v=a.val:=⟨_,rfl⟩
      rw[<- hv] at c1 c2 c3 c4 c5 he HB;clear hv;obtain⟨x,hx⟩:=lt_ ((zA7 v).1);obtain⟨cx,ho⟩:=lt_ ((zA7 v).2);rw[hx,ho] at HB;have hy:=zh hx;have hh:=zh ho;clear hx ho;by_cases hc0:cx=0
      ·subst hc0;have ht:=zh (find_no he.out HN.out (show ((zA7 v).2 != 0)=false by rw[hh.out];rfl));cases x
       ·have hk:=zh (show (vs.take (j+1)).countP (fun v=>(zA7 v).1)=p by rw[countV_one he.out,HP.out,hy.out];rfl);go_wp2_with((go_at_call 69;refine mB (HB.out _) ?_;intro l2 q2))
        go_roundw;case rel=>exact⟨j+1,p,by omega,rfl,rfl,ht,hk,zA0 bel⟩
        case measure=>simp[intOf];omega
       ·have hk:=zh (show (vs.take (j+1)).countP (fun v=>(zA7 v).1)=p+1 by rw[countV_one he.out,HP.out,hy.out];rfl);go_wp2_with((go_at_call 69;refine mB (HB.out _) ?_;intro l2 q2))
        go_roundw;case rel=>exact⟨j+1,p+1,by omega,rfl,rfl,ht,hk,zA0 bel⟩
        case measure=>simp[intOf];omega
      ·have hc:=zh (show errG cx=R by
        rw[<- hu.out,find_yes he.out HN.out (show ((zA7 v).2 != 0)=true by rw[hh.out];simpa using hc0)];show errG cx=errG (zA7 v).2;rw[hh.out])
       have hH:(cx==0)=false:=by simpa using hc0
       have hI:decide (cx=0)=false:=decide_eq_false hc0;have hJ:(cx != 0)=true:=by simpa using hc0
       go_wp2_with(first|(go_at_call 69;refine mB (HB.out _) ?_;intro l2 q2)|(go_at_call 22;refine mB (zA6 _ _) ?_;intro l5 q5))
       exact bodyPost_ret (by simp[results,results24,go_sem,gs0,gs1];try rfl) rfl ⟨by rw[hc.out],bel⟩
     ·obtain rfl:j=n:=by omega
      have hK: ¬ (j:Int)<(j:Int):=by omega
      have hn:=HN.out;have hp:=HP.out;rw[List.take_of_length_le (Nat.le_of_eq hl.out)] at hn hp;have hc:=zh (show zAa (fy p j)=R by
       rw[<- hu.out,hn];show _=zAa (fy (vs.countP fun v=>(zA7 v).1) vs.length);rw[hp,hl.out])
      clear hn hp;rw[hC.out] at hc
      first|unfold fyAnd at hc|unfold fyOr at hc|unfold fyXor at hc
      try rw[show ((p:Int).tmod 2==1)=((p:Int) % 2==1) by rw[Int.tmod_eq_emod_of_nonneg (by omega)]] at hc
      go_wp2_with((go_at_call 50;refine mB (r2_Truth _ _) ?_;intro l6 q6))
      exact bodyPost_ret (by simp[results,results24,go_sem,gs0,gs1];try rfl) rfl ⟨by rw[hc.out],bel⟩
end Go.Proofs.YtnccknhbplaieaaGreatDoor
