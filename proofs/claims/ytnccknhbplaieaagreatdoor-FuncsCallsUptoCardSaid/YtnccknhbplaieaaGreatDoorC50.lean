/- Parts. -/
import Derived.Test.YtnccknhbplaieaaGreatDoorC48
import Derived.Test.YtnccknhbplaieaaGreatDoorC49
import Derived.Test.YtnccknhbplaieaaGreatDoorC46
set_option linter.all false
set_option maxRecDepth 100000
set_option maxHeartbeats 4000000
namespace Go.Proofs.YtnccknhbplaieaaGreatDoor
open Go Go.RowKit Go.Proofs.Tryz
open Go.Lib renaming hid->zh
open _root_.Nat renaming lt_succ_of_lt->Q3
open _root_.Bool renaming and_eq_true->Q4
theorem call11_num (s:ByteArray) (sl:Value) (tx:Int) (R:V) (w:World) (kn kt ka:Bool) (hk8:∀ W,Calls prog 14 #[.string s] W fun e w'=>e=.returned (.bool kn)/\w'=W) (hk9:∀ W,Calls prog 16 #[.string s] W fun e w'=>e=.returned (.bool kt)/\w'=W) (hk10:∀ W,Calls prog 18 #[.string s] W fun e w'=>e=.returned (.bool ka)/\w'=W) (hk:kn=true)
  (hC:∀ W,Below w.heap.size w W->Rt 15 #[.string s,sl,.int .i64 tx] W (vG R)) :
  Rt 7 #[.string s,sl,.int .i64 tx] w (vG R):=by
 have hb:=zh hk8;have hc:=zh hk9;have ha:=zh hk10;have HC:=zh hC;clear hk8 hk9 hk10 hC;subst hk;go_enter func7,ntmps7;go_wp2_with(first|(go_at_call 14;refine(hb.out _).mono ?_;rintro e w9 ⟨rfl,h⟩;obtain rfl:=h.symm;clear h)|(go_at_call 16;refine(hc.out _).mono ?_;rintro e w9 ⟨rfl,h⟩;obtain rfl:=h.symm;clear h)|(go_at_call 18;refine(ha.out _).mono ?_;rintro e w9 ⟨rfl,h⟩;obtain rfl:=h.symm;clear h)|(go_at_call 15;refine mB (HC.out _ bel) ?_;intro l6 q6))
 all_goals(go_returns;exact rb_)
theorem call11_text (s:ByteArray) (sl:Value) (tx:Int) (R:V) (w:World) (kn kt ka:Bool) (hk8:∀ W,Calls prog 14 #[.string s] W fun e w'=>e=.returned (.bool kn)/\w'=W) (hk9:∀ W,Calls prog 16 #[.string s] W fun e w'=>e=.returned (.bool kt)/\w'=W) (hk10:∀ W,Calls prog 18 #[.string s] W fun e w'=>e=.returned (.bool ka)/\w'=W) (hk:kn=false/\kt=true)
  (hC:∀ W,Below w.heap.size w W->Rt 17 #[.string s,sl,.int .i64 tx] W (vG R)) :
  Rt 7 #[.string s,sl,.int .i64 tx] w (vG R):=by
 have hb:=zh hk8;have hc:=zh hk9;have ha:=zh hk10;have HC:=zh hC;clear hk8 hk9 hk10 hC;obtain⟨hk,hd⟩:=hk;subst hk;subst hd;go_enter func7,ntmps7;go_wp2_with(first|(go_at_call 14;refine(hb.out _).mono ?_;rintro e w9 ⟨rfl,h⟩;obtain rfl:=h.symm;clear h)|(go_at_call 16;refine(hc.out _).mono ?_;rintro e w9 ⟨rfl,h⟩;obtain rfl:=h.symm;clear h)|(go_at_call 18;refine(ha.out _).mono ?_;rintro e w9 ⟨rfl,h⟩;obtain rfl:=h.symm;clear h)|(go_at_call 17;refine mB (HC.out _ bel) ?_;intro l6 q6))
 all_goals(go_returns;exact rb_)
theorem call11_agg (s:ByteArray) (sl:Value) (tx:Int) (R:V) (w:World) (kn kt ka:Bool) (hk8:∀ W,Calls prog 14 #[.string s] W fun e w'=>e=.returned (.bool kn)/\w'=W) (hk9:∀ W,Calls prog 16 #[.string s] W fun e w'=>e=.returned (.bool kt)/\w'=W) (hk10:∀ W,Calls prog 18 #[.string s] W fun e w'=>e=.returned (.bool ka)/\w'=W) (hk:kn=false/\kt=false/\ka=true)
  (hC:∀ W,Below w.heap.size w W->Rt 19 #[.string s,sl,.int .i64 tx] W (vG R)) :
  Rt 7 #[.string s,sl,.int .i64 tx] w (vG R):=by
 have hb:=zh hk8;have hc:=zh hk9;have ha:=zh hk10;have HC:=zh hC;clear hk8 hk9 hk10 hC;obtain⟨hk,hd,he⟩:=hk;subst hk;subst hd;subst he;go_enter func7,ntmps7;go_wp2_with(first|(go_at_call 14;refine(hb.out _).mono ?_;rintro e w9 ⟨rfl,h⟩;obtain rfl:=h.symm;clear h)|(go_at_call 16;refine(hc.out _).mono ?_;rintro e w9 ⟨rfl,h⟩;obtain rfl:=h.symm;clear h)|(go_at_call 18;refine(ha.out _).mono ?_;rintro e w9 ⟨rfl,h⟩;obtain rfl:=h.symm;clear h)|(go_at_call 19;refine mB (HC.out _ bel) ?_;intro l6 q6))
 all_goals(go_returns;exact rb_)
structure Pre11 (w:World) (s:ByteArray) (A:Option Addr) (n c:Nat) (bs:List Bool) (okk tk:Bool):Prop where
 k8:∀ W,Calls prog 14 #[.string s] W fun e w'=>e=.returned (.bool false)/\w'=W
 k9:∀ W,Calls prog 16 #[.string s] W fun e w'=>e=.returned (.bool false)/\w'=W
 k10:∀ W,Calls prog 18 #[.string s] W fun e w'=>e=.returned (.bool false)/\w'=W
 hA:∀ W,Below w.heap.size w W->Calls prog 20 #[.slice A n c] W fun e w'=>∃ v,e=.returned (.tuple #[v,.bool okk])/\w'.ownsRow W.heap.size 4 1 v n (bs.map Value.bool)/\Below W.heap.size W w'
 hT:∀ (A1:Option Addr) (c1:Nat) (W:World) (B:Nat),Reads W B 1 A1 n (bs.map Value.bool)->Rt 21 #[.agg #[],.string s,.slice A1 n c1] W (.bool tk)
theorem call11_no (s:ByteArray) (A:Option Addr) (n c:Nat) (bs:List Bool) (tx:Int) (w:World) (okk tk:Bool) (hp:Pre11 w s A n c bs okk tk) (hno:(okk&&tk)=false) :
  Rt 7 #[.string s,.slice A n c,.int .i64 tx] w (vG (errG 8)):=by
 have hf:=zh hp.k8;have hg:=zh hp.k9;have hd:=zh hp.k10;have hc:=zh hp.hA;have hi:=zh hp.hT;obtain⟨R,hR⟩:=lt_ (errG 8);have HE:=zh (fun W=>zA6 8 W);rw[hR] at HE ⊢;clear hp hR;cases okk
 rotate_left
 cases tk
 rotate_left
 ·cases hno
 all_goals
  clear hno;go_enter func7,ntmps7;go_wp2_with(first|(go_at_call 14;refine(hf.out _).mono ?_;rintro e w9 ⟨rfl,h⟩;obtain rfl:=h.symm;clear h)|(go_at_call 16;refine(hg.out _).mono ?_;rintro e w9 ⟨rfl,h⟩;obtain rfl:=h.symm;clear h)|(go_at_call 18;refine(hd.out _).mono ?_;rintro e w9 ⟨rfl,h⟩;obtain rfl:=h.symm;clear h)|(go_at_call 20;refine(hc.out _ bel).mono ?_;rintro e w1 ⟨v1,rfl,ha,hb⟩;obtain⟨A1,c1,rfl,-,-⟩:=zA8 ha;have hh:=zh (Reads.zAC ha);obtain⟨hB1,he,r0,r1,r2,r3,r4,rf0,rf1,rf2,rf3,rf4⟩:=box0 hb;clear ha hb)|(go_at_call 21;refine mB (hi.out _ _ _ _ (hh.out.below bel)) ?_;intro l2 q2;have gs1:w.heap.size<w1.heap.size+1:=Q3 he)|(go_at_call 22;refine mB (HE.out _) ?_;intro l5 q5))
  exact bodyPost_ret (by simp[results,results7,go_sem,zAG,r0,r1,r2,r3,r4,he,gs1];try rfl) rfl ⟨rfl,bel⟩
theorem call11_ch (s:ByteArray) (hs:s=(⟨#[73,70]⟩:ByteArray)∨s=(⟨#[67,72,79,79,83,69]⟩:ByteArray)∨s=(⟨#[69,82,82]⟩:ByteArray)∨s=(⟨#[78,79,84]⟩:ByteArray)) (A:Option Addr) (n c:Nat) (bs:List Bool) (tx:Int) (R:V) (w:World) (hp:Pre11 w s A n c bs true true)
  (hC:∀ W,Below w.heap.size w W->Rt 23 #[.string s,.slice A n c] W (vG R)) :
  Rt 7 #[.string s,.slice A n c,.int .i64 tx] w (vG R):=by
 have hf:=zh hp.k8;have hg:=zh hp.k9;have hd:=zh hp.k10;have hc:=zh hp.hA;have hi:=zh hp.hT;have HC:=zh hC;clear hp hC;rcases hs with rfl|rfl|rfl|rfl;all_goals(go_enter func7,ntmps7;go_wp2_with(first|(go_at_call 14;refine(hf.out _).mono ?_;rintro e w9 ⟨rfl,h⟩;obtain rfl:=h.symm;clear h)|(go_at_call 16;refine(hg.out _).mono ?_;rintro e w9 ⟨rfl,h⟩;obtain rfl:=h.symm;clear h)|(go_at_call 18;refine(hd.out _).mono ?_;rintro e w9 ⟨rfl,h⟩;obtain rfl:=h.symm;clear h)|(go_at_call 20;refine(hc.out _ bel).mono ?_;rintro e w1 ⟨v1,rfl,ha,hb⟩;obtain⟨A1,c1,rfl,-,-⟩:=zA8 ha;have hh:=zh (Reads.zAC ha);obtain⟨hB1,he,r0,r1,r2,r3,r4,rf0,rf1,rf2,rf3,rf4⟩:=box0 hb;clear ha hb)|(go_at_call 21;refine mB (hi.out _ _ _ _ (hh.out.below bel)) ?_;intro l2 q2;have gs1:w.heap.size<w1.heap.size+1:=Q3 he)|(go_at_call 23;refine mB (HC.out _ bel) ?_;intro l6 q6));exact bodyPost_ret (by simp[results,results7,go_sem,zAG,r0,r1,r2,r3,r4,he,gs1];try rfl) rfl ⟨rfl,bel⟩)
theorem call11_tr (s:ByteArray) (hs:s=(⟨#[65,78,68]⟩:ByteArray)∨s=(⟨#[79,82]⟩:ByteArray)∨s=(⟨#[88,79,82]⟩:ByteArray)) (A:Option Addr) (n c:Nat) (bs:List Bool) (tx:Int) (R:V) (w:World) (hp:Pre11 w s A n c bs true true)
  (hC:∀ W,Below w.heap.size w W->Rt 24 #[.string s,.slice A n c] W (vG R)) :
  Rt 7 #[.string s,.slice A n c,.int .i64 tx] w (vG R):=by
 have hf:=zh hp.k8;have hg:=zh hp.k9;have hd:=zh hp.k10;have hc:=zh hp.hA;have hi:=zh hp.hT;have HC:=zh hC;clear hp hC;rcases hs with rfl|rfl|rfl;all_goals(go_enter func7,ntmps7;go_wp2_with(first|(go_at_call 14;refine(hf.out _).mono ?_;rintro e w9 ⟨rfl,h⟩;obtain rfl:=h.symm;clear h)|(go_at_call 16;refine(hg.out _).mono ?_;rintro e w9 ⟨rfl,h⟩;obtain rfl:=h.symm;clear h)|(go_at_call 18;refine(hd.out _).mono ?_;rintro e w9 ⟨rfl,h⟩;obtain rfl:=h.symm;clear h)|(go_at_call 20;refine(hc.out _ bel).mono ?_;rintro e w1 ⟨v1,rfl,ha,hb⟩;obtain⟨A1,c1,rfl,-,-⟩:=zA8 ha;have hh:=zh (Reads.zAC ha);obtain⟨hB1,he,r0,r1,r2,r3,r4,rf0,rf1,rf2,rf3,rf4⟩:=box0 hb;clear ha hb)|(go_at_call 21;refine mB (hi.out _ _ _ _ (hh.out.below bel)) ?_;intro l2 q2;have gs1:w.heap.size<w1.heap.size+1:=Q3 he)|(go_at_call 24;refine mB (HC.out _ bel) ?_;intro l6 q6));exact bodyPost_ret (by simp[results,results7,go_sem,zAG,r0,r1,r2,r3,r4,he,gs1];try rfl) rfl ⟨rfl,bel⟩)
theorem call11_tag (s:ByteArray) (hs:s=(⟨#[73,83,69,82,82]⟩:ByteArray)∨s=(⟨#[73,83,66,76,65,78,75]⟩:ByteArray)∨s=(⟨#[73,83,78,85,77]⟩:ByteArray)∨s=(⟨#[73,83,84,69,88,84]⟩:ByteArray)∨s=(⟨#[73,83,66,79,79,76]⟩:ByteArray)∨s=(⟨#[84,89,80,69]⟩:ByteArray)∨s=(⟨#[69,82,82,78,79]⟩:ByteArray)) (a0:Arg) (b off n c:Nat) (hn:0<n) (bs:List Bool) (tx:Int) (R:V) (w:World) (hp:Pre11 w s (some ⟨b,off,none⟩) n c bs true true) (hc:∀ i u,a0.cells[i]? =some u->w.cell? ⟨b,off+0+i,none⟩=some u)
  (hC:∀ W,Below w.heap.size w W->Rt 25 #[.string s,(.agg #[.int .i64 a0.val.tag,.int .i64 a0.val.num,.string a0.val.str,.bool a0.val.is,.int .i64 a0.val.code])] W (vG R)) :
  Rt 7 #[.string s,.slice (some ⟨b,off,none⟩) n c,.int .i64 tx] w (vG R):=by
 have hh:=zh hp.k8;have hi:=zh hp.k9;have hf:=zh hp.k10;have hd:=zh hp.hA;have hk:=zh hp.hT;have HC:=zh hC;obtain⟨z1,z2,z3,z4,z5⟩:=tkV hc;simp only[Nat.add_zero] at z1 z2 z3 z4 z5;have hb:=cltK z1;clear hp hC hc;rcases hs with rfl|rfl|rfl|rfl|rfl|rfl|rfl;all_goals(go_enter func7,ntmps7;go_wp2_with(first|(go_at_call 14;refine(hh.out _).mono ?_;rintro e w9 ⟨rfl,h⟩;obtain rfl:=h.symm;clear h)|(go_at_call 16;refine(hi.out _).mono ?_;rintro e w9 ⟨rfl,h⟩;obtain rfl:=h.symm;clear h)|(go_at_call 18;refine(hf.out _).mono ?_;rintro e w9 ⟨rfl,h⟩;obtain rfl:=h.symm;clear h)|(go_at_call 20;refine(hd.out _ bel).mono ?_;rintro e w1 ⟨v1,rfl,ha,hb⟩;obtain⟨A1,c1,rfl,-,-⟩:=zA8 ha;have hj:=zh (Reads.zAC ha);obtain⟨he,hg,r0,r1,r2,r3,r4,rf0,rf1,rf2,rf3,rf4⟩:=box0 hb;have d1:=cell_below z1 he;have d2:=cell_below z2 he;have d3:=cell_below z3 he;have d4:=cell_below z4 he;have d5:=cell_below z5 he;have hl:=cltK d1;have hm:=Q3 hl;clear ha hb)|(go_at_call 21;refine mB (hk.out _ _ _ _ (hj.out.below bel)) ?_;intro l2 q2;have gs1:w.heap.size<w1.heap.size+1:=Q3 hg)|(go_at_call 25;refine mB (HC.out _ bel) ?_;intro l6 q6));exact bodyPost_ret (by simp[results,results7,go_sem,zAG,r0,r1,r2,r3,r4,hg,gs1];try rfl) rfl ⟨rfl,bel⟩)
theorem call11_ASK (A:Option Addr) (n c:Nat) (bs:List Bool) (tx:Int) (w:World) (hp:Pre11 w (⟨#[65,83,75]⟩:ByteArray) A n c bs true true) :
  Rt 7 #[.string (⟨#[65,83,75]⟩:ByteArray),.slice A n c,.int .i64 tx] w (vG (errG 8)):=by
 have hf:=zh hp.k8;have hg:=zh hp.k9;have hd:=zh hp.k10;have hc:=zh hp.hA;have hi:=zh hp.hT;obtain⟨R,hR⟩:=lt_ (errG 8);have HE:=zh (fun W=>zA6 8 W);rw[hR] at HE ⊢;clear hp hR;go_enter func7,ntmps7;go_wp2_with(first|(go_at_call 14;refine(hf.out _).mono ?_;rintro e w9 ⟨rfl,h⟩;obtain rfl:=h.symm;clear h)|(go_at_call 16;refine(hg.out _).mono ?_;rintro e w9 ⟨rfl,h⟩;obtain rfl:=h.symm;clear h)|(go_at_call 18;refine(hd.out _).mono ?_;rintro e w9 ⟨rfl,h⟩;obtain rfl:=h.symm;clear h)|(go_at_call 20;refine(hc.out _ bel).mono ?_;rintro e w1 ⟨v1,rfl,ha,hb⟩;obtain⟨A1,c1,rfl,-,-⟩:=zA8 ha;have hh:=zh (Reads.zAC ha);obtain⟨hB1,he,r0,r1,r2,r3,r4,rf0,rf1,rf2,rf3,rf4⟩:=box0 hb;clear ha hb)|(go_at_call 21;refine mB (hi.out _ _ _ _ (hh.out.below bel)) ?_;intro l2 q2;have gs1:w.heap.size<w1.heap.size+1:=Q3 he)|(go_at_call 22;refine mB (HE.out _) ?_;intro l5 q5))
 exact bodyPost_ret (by simp[results,results7,go_sem,zAG,r0,r1,r2,r3,r4,he,gs1];try rfl) rfl ⟨rfl,bel⟩
theorem call11_IFERR (a0 a1:Arg) (b off c:Nat) (bs:List Bool) (tx:Int) (w:World) (hp:Pre11 w (⟨#[73,70,69,82,82]⟩:ByteArray) (some ⟨b,off,none⟩) 2 c bs true true) (hc:∀ i u,a0.cells[i]? =some u->w.cell? ⟨b,off+0+i,none⟩=some u) (hc1:∀ i u,a1.cells[i]? =some u->w.cell? ⟨b,off+11+i,none⟩=some u) :
  Rt 7 #[.string (⟨#[73,70,69,82,82]⟩:ByteArray),.slice (some ⟨b,off,none⟩) 2 c,.int .i64 tx] w (vG (if a0.val.tag=4 then a1.val else a0.val)):=by
 have hh:=zh hp.k8;have hi:=zh hp.k9;have hf:=zh hp.k10;have he:=zh hp.hA;have hk:=zh hp.hT;obtain⟨z1,z2,z3,z4,z5⟩:=tkV hc;simp only[Nat.add_zero] at z1 z2 z3 z4 z5;obtain⟨e1,e2,e3,e4,e5⟩:=tkV hc1;have hb:=cltK z1;clear hp hc hc1;by_cases h4:a0.val.tag=4
 rw[if_pos h4];have hl:(a0.val.tag==4)=true:=by simp[h4]
 rotate_left
 rw[if_neg h4];have hl:(a0.val.tag==4)=false:=by simp[h4]
 all_goals
  clear h4;go_enter func7,ntmps7;go_wp2_with(first|(go_at_call 14;refine(hh.out _).mono ?_;rintro e w9 ⟨rfl,h⟩;obtain rfl:=h.symm;clear h)|(go_at_call 16;refine(hi.out _).mono ?_;rintro e w9 ⟨rfl,h⟩;obtain rfl:=h.symm;clear h)|(go_at_call 18;refine(hf.out _).mono ?_;rintro e w9 ⟨rfl,h⟩;obtain rfl:=h.symm;clear h)|(go_at_call 20;refine(he.out _ bel).mono ?_;rintro e w1 ⟨v1,rfl,hd,hb⟩;obtain⟨A1,c1,rfl,-,-⟩:=zA8 hd;have hj:=zh (Reads.zAC hd);obtain⟨ha,hg,r0,r1,r2,r3,r4,rf0,rf1,rf2,rf3,rf4⟩:=box0 hb;have d1:=cell_below z1 ha;have d2:=cell_below z2 ha;have d3:=cell_below z3 ha;have d4:=cell_below z4 ha;have d5:=cell_below z5 ha;have hm:=cltK d1;have hn:=Q3 hm;have f1:=cell_below e1 ha;have f2:=cell_below e2 ha;have f3:=cell_below e3 ha;have f4:=cell_below e4 ha;have f5:=cell_below e5 ha;clear hd hb)|(go_at_call 21;refine mB (hk.out _ _ _ _ (hj.out.below bel)) ?_;intro l2 q2;have gs1:w.heap.size<w1.heap.size+1:=Q3 hg))
  exact bodyPost_ret (by simp[results,results7,go_sem,zAG,r0,r1,r2,r3,r4,hg,gs1];try rfl) rfl ⟨rfl,bel⟩
theorem fault_num {v:V} (hm:mayG v=true) (h4:v.tag=4):(zA5 v).2=v.code/\v.code≠0/\errG v.code=v:=by
 obtain⟨hc,he⟩:=fault_is hm h4;refine⟨?_,?_,he.symm⟩
 ·unfold zA5;rw[if_neg (by rw[hm];decide),if_pos h4]
 ·unfold isCode at hc;simp only[Q4,decide_eq_true_eq] at hc;omega
theorem fault_int {v:V} (hm:mayG v=true) (h4:v.tag=4):(zAI v).2=v.code:=by
 obtain⟨h1,h2,_⟩:=fault_num hm h4;unfold zAI;rw[if_pos (by rw[h1];exact h2)];exact h1
theorem choose_fault {v:V} (vs:List V) (hm:mayG v=true) (h4:v.tag=4):chooseG (v::vs)=v:=by
 obtain⟨_,h2,h3⟩:=fault_num hm h4;show (if (zAI v).2≠0 then errG (zAI v).2 else _)=v;rw[fault_int hm h4,if_pos h2,h3]
theorem errs_fault {v:V} (hm:mayG v=true) (h4:v.tag=4):faultG v=v:=by
 obtain⟨_,h2,h3⟩:=fault_num hm h4;unfold faultG;rw[fault_int hm h4,if_neg h2,h3]
theorem choice_fault {v y:V} (zs:List V) (hm:mayG v=true) (h4:v.tag=4):zAz (v::y::zs)=v:=by
 obtain⟨h1,h2,h3⟩:=fault_num hm h4;have h5:(zA7 v).2=v.code:=h1;show (if (zA7 v).2≠0 then errG (zA7 v).2 else _)=v;rw[h5,if_pos h2,h3]
theorem not_fault {v:V} (h4:v.tag=4):zBM fyNot [v]=v:=by
 unfold zBM;rw[show [v].find? (fun v=>v.tag==4)=some v by simp[h4]]
theorem not_is {v:V} (h4: ¬ v.tag=4):zBM fyNot [v]=if (zA7 v).2≠0 then errG (zA7 v).2 else zAa (!(zA7 v).1):=by
 unfold zBM;rw[show [v].find? (fun v=>v.tag==4)=none by simp[h4]];by_cases hc:(zA7 v).2=0
 ·rw[if_neg (by simp[hc]),show [v].find? (fun v=>(zA7 v).2 != 0)=none by simp[hc]];show zAa (fyNot ([v].countP fun v=>(zA7 v).1) 1)=_;cases hb:(zA7 v).1<;>simp[hb,fyNot]
 ·rw[if_pos hc,show [v].find? (fun v=>(zA7 v).2 != 0)=some v by simp[hc]]
theorem zBV {w:World} {al:List Arg} {A:Option Addr} {n:Nat} (hr:Reads w w.heap.size 11 A n (zAY al)) (hn:0<n):∃ b off,A=some ⟨b,off,none⟩/\∀ j a,al[j]? =some a->∀ i u,a.cells[i]? =some u->w.cell? ⟨b,off+11*j+i,none⟩=some u:=by
 obtain⟨b,off,rfl,_,hc⟩:=hr.2 hn;refine⟨b,off,rfl,fun j a ha i u hu=> ?_⟩;have h1:=hc _ u (zAP al j a ha i u hu);rw[show off+11*j+i=off+(j*11+i) by omega];exact h1
theorem own11_do {w:World} {s:ByteArray} {x y:Int} {d:Doer} (ho:zAg s=some (x,y,d)) (al:List Arg) (A:Option Addr) (n c:Nat) (tx:Int) (hpre:Pre11 w s A n c (al.map Arg.many) true true) (hr:Reads w w.heap.size 11 A n (zAY al)) (hlen:al.length=n) (hbt:between x y n=true) (hno:zAU (al.map Arg.many)=false) (h64:∀ a∈al,Is64 a.val.num) (hmay:∀ a∈al,mayG a.val=true) :
  Rt 7 #[.string s,.slice A n c,.int .i64 tx] w (vG (ownDo s (al.map Arg.val))):=by
 simp only[between,Q4,decide_eq_true_eq] at hbt;unfold zAg at ho;unfold ownDo;by_cases eASK:(⟨#[65,83,75]⟩:ByteArray)=s
 ·rw[if_pos eASK] at ho ⊢;cases ho;subst eASK;exact call11_ASK A n c _ tx w hpre
 rw[if_neg eASK] at ho ⊢;by_cases eCHOOSE:(⟨#[67,72,79,79,83,69]⟩:ByteArray)=s
 ·rw[if_pos eCHOOSE] at ho ⊢;cases ho;subst eCHOOSE;obtain⟨m,rfl⟩:∃ m,n=m+1:=⟨n-1,by omega⟩
  obtain⟨a0,al,rfl⟩:=lenS hlen;refine call11_ch _ (by simp) A _ c _ tx _ w hpre (fun W hb=> ?_);by_cases h4:a0.val.tag=4
  ·obtain⟨b,off,rfl,hc⟩:=zBV hr (by omega);rw[show chooseG ((a0::al).map Arg.val)=a0.val from choose_fault _ (hmay a0 (by simp)) h4];exact chosen_fault _ a0 b off _ c (by omega) W (fun i u hu=>cell_below (hc 0 a0 rfl i u hu) hb) h4
  ·exact chosen_CHOOSE a0 al A _ c W ((hr.below hb).lift hb.size) (by omega) h4 (h64 a0 (by simp))
 rw[if_neg eCHOOSE] at ho ⊢;by_cases eERR:(⟨#[69,82,82]⟩:ByteArray)=s
 ·rw[if_pos eERR] at ho ⊢;cases ho;subst eERR;obtain rfl:n=1:=by omega
  obtain⟨a0,rfl⟩:=len1 hlen;obtain⟨b,off,rfl,hc⟩:=zBV hr (by decide);have m0:=hmay a0 (by simp);have i0:=h64 a0 (by simp);show Calls prog 7 _ w fun e w'=>e=.returned (vG (faultG a0.val))/\Below w.heap.size w w';refine call11_ch _ (by simp) _ _ c _ tx _ w hpre (fun W hb=> ?_);by_cases h4:a0.val.tag=4
  ·rw[errs_fault m0 h4];exact chosen_fault _ a0 b off _ c (by decide) W (fun i u hu=>cell_below (hc 0 a0 rfl i u hu) hb) h4
  ·exact chosen_ERR a0 b off c W (fun i u hu=>cell_below (hc 0 a0 rfl i u hu) hb) h4 i0
 rw[if_neg eERR] at ho ⊢;by_cases eERRNO:(⟨#[69,82,82,78,79]⟩:ByteArray)=s
 ·rw[if_pos eERRNO] at ho ⊢;cases ho;subst eERRNO;obtain rfl:n=1:=by omega
  obtain⟨a0,rfl⟩:=len1 hlen;obtain⟨b,off,rfl,hc⟩:=zBV hr (by decide);have m0:=hmay a0 (by simp);have i0:=h64 a0 (by simp);exact call11_tag _ (by simp) a0 b off 1 c (by decide) _ tx _ w hpre (hc 0 a0 rfl) (fun W hb=>tag_ERRNO a0.val (fun h=>(fault_is m0 h).1) W)
 rw[if_neg eERRNO] at ho ⊢;by_cases eTYPE:(⟨#[84,89,80,69]⟩:ByteArray)=s
 ·rw[if_pos eTYPE] at ho ⊢;cases ho;subst eTYPE;obtain rfl:n=1:=by omega
  obtain⟨a0,rfl⟩:=len1 hlen;obtain⟨b,off,rfl,hc⟩:=zBV hr (by decide);have m0:=hmay a0 (by simp);have i0:=h64 a0 (by simp);exact call11_tag _ (by simp) a0 b off 1 c (by decide) _ tx _ w hpre (hc 0 a0 rfl) (fun W hb=>tag_TYPE a0.val (may_tag m0).1 (may_tag m0).2 W)
 rw[if_neg eTYPE] at ho ⊢;by_cases eISBOOL:(⟨#[73,83,66,79,79,76]⟩:ByteArray)=s
 ·rw[if_pos eISBOOL] at ho ⊢;cases ho;subst eISBOOL;obtain rfl:n=1:=by omega
  obtain⟨a0,rfl⟩:=len1 hlen;obtain⟨b,off,rfl,hc⟩:=zBV hr (by decide);have m0:=hmay a0 (by simp);have i0:=h64 a0 (by simp);exact call11_tag _ (by simp) a0 b off 1 c (by decide) _ tx _ w hpre (hc 0 a0 rfl) (fun W hb=>tag_ISBOOL a0.val W)
 rw[if_neg eISBOOL] at ho ⊢;by_cases eISTEXT:(⟨#[73,83,84,69,88,84]⟩:ByteArray)=s
 ·rw[if_pos eISTEXT] at ho ⊢;cases ho;subst eISTEXT;obtain rfl:n=1:=by omega
  obtain⟨a0,rfl⟩:=len1 hlen;obtain⟨b,off,rfl,hc⟩:=zBV hr (by decide);have m0:=hmay a0 (by simp);have i0:=h64 a0 (by simp);exact call11_tag _ (by simp) a0 b off 1 c (by decide) _ tx _ w hpre (hc 0 a0 rfl) (fun W hb=>tag_ISTEXT a0.val W)
 rw[if_neg eISTEXT] at ho ⊢;by_cases eISNUM:(⟨#[73,83,78,85,77]⟩:ByteArray)=s
 ·rw[if_pos eISNUM] at ho ⊢;cases ho;subst eISNUM;obtain rfl:n=1:=by omega
  obtain⟨a0,rfl⟩:=len1 hlen;obtain⟨b,off,rfl,hc⟩:=zBV hr (by decide);have m0:=hmay a0 (by simp);have i0:=h64 a0 (by simp);exact call11_tag _ (by simp) a0 b off 1 c (by decide) _ tx _ w hpre (hc 0 a0 rfl) (fun W hb=>tag_ISNUM a0.val W)
 rw[if_neg eISNUM] at ho ⊢;by_cases eISBLANK:(⟨#[73,83,66,76,65,78,75]⟩:ByteArray)=s
 ·rw[if_pos eISBLANK] at ho ⊢;cases ho;subst eISBLANK;obtain rfl:n=1:=by omega
  obtain⟨a0,rfl⟩:=len1 hlen;obtain⟨b,off,rfl,hc⟩:=zBV hr (by decide);have m0:=hmay a0 (by simp);have i0:=h64 a0 (by simp);exact call11_tag _ (by simp) a0 b off 1 c (by decide) _ tx _ w hpre (hc 0 a0 rfl) (fun W hb=>tag_ISBLANK a0.val W)
 rw[if_neg eISBLANK] at ho ⊢;by_cases eISERR:(⟨#[73,83,69,82,82]⟩:ByteArray)=s
 ·rw[if_pos eISERR] at ho ⊢;cases ho;subst eISERR;obtain rfl:n=1:=by omega
  obtain⟨a0,rfl⟩:=len1 hlen;obtain⟨b,off,rfl,hc⟩:=zBV hr (by decide);have m0:=hmay a0 (by simp);have i0:=h64 a0 (by simp);exact call11_tag _ (by simp) a0 b off 1 c (by decide) _ tx _ w hpre (hc 0 a0 rfl) (fun W hb=>tag_ISERR a0.val W)
 rw[if_neg eISERR] at ho ⊢;by_cases eIFERR:(⟨#[73,70,69,82,82]⟩:ByteArray)=s
 ·rw[if_pos eIFERR] at ho ⊢;cases ho;subst eIFERR;obtain rfl:n=2:=by omega
  obtain⟨a0,a1,rfl⟩:=len2 hlen;obtain⟨b,off,rfl,hc⟩:=zBV hr (by decide);exact call11_IFERR a0 a1 b off c _ tx w hpre (hc 0 a0 rfl) (hc 1 a1 rfl)
 rw[if_neg eIFERR] at ho ⊢;by_cases eNOT:(⟨#[78,79,84]⟩:ByteArray)=s
 ·rw[if_pos eNOT] at ho ⊢;cases ho;subst eNOT;obtain rfl:n=1:=by omega
  obtain⟨a0,rfl⟩:=len1 hlen;obtain⟨b,off,rfl,hc⟩:=zBV hr (by decide);have m0:=hmay a0 (by simp);have i0:=h64 a0 (by simp);show Calls prog 7 _ w fun e w'=>e=.returned (vG (zBM fyNot [a0.val]))/\Below w.heap.size w w';refine call11_ch _ (by simp) _ _ c _ tx _ w hpre (fun W hb=> ?_);by_cases h4:a0.val.tag=4
  ·rw[not_fault h4];exact chosen_fault _ a0 b off _ c (by decide) W (fun i u hu=>cell_below (hc 0 a0 rfl i u hu) hb) h4
  ·rw[not_is h4];exact chosen_NOT a0 b off c W (fun i u hu=>cell_below (hc 0 a0 rfl i u hu) hb) h4 i0
 rw[if_neg eNOT] at ho ⊢;by_cases eXOR:(⟨#[88,79,82]⟩:ByteArray)=s
 ·rw[if_pos eXOR] at ho ⊢;cases ho;subst eXOR;exact call11_tr _ (by simp) A n c _ tx _ w hpre (fun W hb=>truths_any _ _ (by simp) al A n c W ((hr.below hb).lift hb.size) (by omega) hno h64)
 rw[if_neg eXOR] at ho ⊢;by_cases eOR:(⟨#[79,82]⟩:ByteArray)=s
 ·rw[if_pos eOR] at ho ⊢;cases ho;subst eOR;exact call11_tr _ (by simp) A n c _ tx _ w hpre (fun W hb=>truths_any _ _ (by simp) al A n c W ((hr.below hb).lift hb.size) (by omega) hno h64)
 rw[if_neg eOR] at ho ⊢;by_cases eAND:(⟨#[65,78,68]⟩:ByteArray)=s
 ·rw[if_pos eAND] at ho ⊢;cases ho;subst eAND;exact call11_tr _ (by simp) A n c _ tx _ w hpre (fun W hb=>truths_any _ _ (by simp) al A n c W ((hr.below hb).lift hb.size) (by omega) hno h64)
 rw[if_neg eAND] at ho ⊢;by_cases eIF:(⟨#[73,70]⟩:ByteArray)=s
 ·rw[if_pos eIF] at ho ⊢;cases ho;subst eIF;rcases(show n=2∨n=3 by omega) with rfl|rfl
  ·obtain⟨a0,a1,rfl⟩:=len2 hlen;obtain⟨b,off,rfl,hc⟩:=zBV hr (by decide);show Calls prog 7 _ w fun e w'=>e=.returned (vG (zAz [a0.val,a1.val]))/\Below w.heap.size w w';refine call11_ch _ (by simp) _ _ c _ tx _ w hpre (fun W hb=> ?_);by_cases h4:a0.val.tag=4
   ·rw[choice_fault _ (hmay a0 (by simp)) h4];exact chosen_fault _ a0 b off _ c (by decide) W (fun i u hu=>cell_below (hc 0 a0 rfl i u hu) hb) h4
   ·exact chosen_IF2 a0 a1 b off c W (fun i u hu=>cell_below (hc 0 a0 rfl i u hu) hb) (fun i u hu=>cell_below (hc 1 a1 rfl i u hu) hb) h4 (h64 a0 (by simp))
  ·obtain⟨a0,a1,a2,rfl⟩:=len3 hlen;obtain⟨b,off,rfl,hc⟩:=zBV hr (by decide);show Calls prog 7 _ w fun e w'=>e=.returned (vG (zAz [a0.val,a1.val,a2.val]))/\Below w.heap.size w w';refine call11_ch _ (by simp) _ _ c _ tx _ w hpre (fun W hb=> ?_);by_cases h4:a0.val.tag=4
   ·rw[choice_fault _ (hmay a0 (by simp)) h4];exact chosen_fault _ a0 b off _ c (by decide) W (fun i u hu=>cell_below (hc 0 a0 rfl i u hu) hb) h4
   ·exact chosen_IF3 a0 a1 a2 b off c W (fun i u hu=>cell_below (hc 0 a0 rfl i u hu) hb) (fun i u hu=>cell_below (hc 1 a1 rfl i u hu) hb) (fun i u hu=>cell_below (hc 2 a2 rfl i u hu) hb) h4 (h64 a0 (by simp))
 rw[if_neg eIF] at ho ⊢;cases ho
theorem lay0R {s:ByteArray} (h:(zAd s).isSome=true):layOf s=some 0:=by unfold layOf;rw[if_pos h]
theorem lay1R {s:ByteArray} (h0:(zAd s).isSome=false) (h:(zAT s).isSome=true):layOf s=some 1:=by unfold layOf;rw[if_neg (by rw[h0];decide),if_pos h]
theorem lay2R {s:ByteArray} (h0:(zAd s).isSome=false) (h1:(zAT s).isSome=false) (h:(zAV s).isSome=true):layOf s=some 2:=by unfold layOf;rw[if_neg (by rw[h0];decide),if_neg (by rw[h1];decide),if_pos h]
theorem layN {s:ByteArray} (h0:(zAd s).isSome=false) (h1:(zAT s).isSome=false) (h2:(zAV s).isSome=false):layOf s=none:=by unfold layOf;rw[if_neg (by rw[h0];decide),if_neg (by rw[h1];decide),if_neg (by rw[h2];decide)]
theorem r11_Call {w:World} {pl:List (Arg×List En)} {A:Option Addr} {n c:Nat} (h:LawIn w pl A n c) (s:ByteArray) (tx:Int) :
  Rt 7 #[.string s,.slice A n c,.int .i64 tx] w (vG (tabX s pl tx)):=by
 have hm:n<=1000000000000:=by have:=h.hm;omega
 have hn:pl.length=n:=h.len;have hd:(pl.map Prod.fst).length=n:=by rw[List.length_map,hn]
 have hi:∀ W0,Below w.heap.size w W0->∀ j a,(pl.map Prod.fst)[j]? =some a->∀ W,Below W0.heap.size W0 W->Rt 67 #[a.agg] W (.bool (okJ pl j)):=fun W0 hb0 j a ha W hb=>by
  obtain⟨p,hj,rfl⟩:=map_at ha;have hf:=List.mem_of_getElem? hj;rw[okJ_at hj];exact ref08_may p.1 p.2 W (((h.hE p hf).below hb0).below hb) (h.h64 p hf).1.1 (fun e he=>((h.h64 p hf).2 e he).1) (by have:=h.hn9 p hf;omega)
 have h8:∀ W,Calls prog 14 #[.string s] W fun e w'=>e=.returned (.bool (zAd s).isSome)/\w'=W:=fun W=>by have:=ref08_Known s W;rw[k8_eq] at this;exact this
 have h9:∀ W,Calls prog 16 #[.string s] W fun e w'=>e=.returned (.bool (zAT s).isSome)/\w'=W:=fun W=>by have:=ref09_Known s W;rw[k9_eq] at this;exact this
 have hh:∀ W,Calls prog 18 #[.string s] W fun e w'=>e=.returned (.bool (zAV s).isSome)/\w'=W:=fun W=>by have:=ref10_Known s W;rw[k10_eq] at this;exact this
 cases hkn:(zAd s).isSome with
 | true =>
   have hl:=lay0R hkn;rw[show tabX s pl tx=zBI s (pl.map Prod.fst) (okJ pl) by unfold tabX;rw[own_none hl,hl];rfl];exact call11_num s _ tx _ w _ _ _ h8 h9 hh hkn (fun W hb=>r8_Call s _ A n c tx W (h.below hb).hr hm h.aF (okJ pl) (hi W hb))
 | false =>
   cases hkt:(zAT s).isSome with
   | true =>
     have hl:=lay1R hkn hkt;rw[show tabX s pl tx=zBY s (pl.map Prod.fst) (okJ pl) tx by unfold tabX;rw[own_none hl,hl];rfl];exact call11_text s _ tx _ w _ _ _ h8 h9 hh ⟨hkn,hkt⟩ (fun W hb=>r9_Call s _ A n c tx W (h.below hb).hr hm h.aF (fun a ha=>by
      obtain⟨p,hp,rfl⟩:=List.mem_map.1 ha;exact(h.hsz p hp).1) (okJ pl) (hi W hb))
   | false =>
     cases hka:(zAV s).isSome with
     | true =>
       have hl:=lay2R hkn hkt hka;rw[show tabX s pl tx=zBj s (pl.map Prod.fst) pl (okJ pl) tx by unfold tabX;rw[own_none hl,hl];rfl];exact call11_agg s _ tx _ w _ _ _ h8 h9 hh ⟨hkn,hkt,hka⟩ (fun W hb=>r10_Call s pl A n c tx W (h.below hb).hr hm h.hcap (okJ pl) (hi W hb) (fun j p hj=>okJ_at hj) (h.below hb).hE h.h64 (fun h16=>by
        have h1:=items_bound pl fun p hp=>by have:=(h.hE p hp).1;have:=h.hn9 p hp;omega
        omega) h.hsz (fun q hq=>by have:=h.hn9 q hq;omega))
     | false =>
       have hl:=layN hkn hkt hka;rw[hkn] at h8;rw[hkt] at h9;rw[hka] at hh;have hk:((pl.map Prod.fst).map Arg.many).length=n:=by rw[List.length_map,hd]
       have hg:Pre11 w s A n c ((pl.map Prod.fst).map Arg.many) ((List.range n).all (okJ pl)) (zBK s ((pl.map Prod.fst).map Arg.many)):=⟨h8,h9,hh,fun W hb=>by
        have h1:=ref08_ArgsX (pl.map Prod.fst) A n c W.heap.size W (h.below hb).hr hm (okJ pl) (hi W hb);rw[hd] at h1;exact h1,fun A1 c1 W B hR=>by
        have h1:=ref11_Takes s A1 n c1 ((pl.map Prod.fst).map Arg.many) W B hR (by omega);rw[<- takes_law s n _ hk] at h1;exact h1⟩
       cases hob:((List.range n).all (okJ pl)&&zBK s ((pl.map Prod.fst).map Arg.many)) with
       | false =>
         have ht:tabX s pl tx=errG 8:=by
          unfold tabX;cases ho:zAg s with
          | some q =>
            show callX (okJ pl) s (pl.map Prod.fst) _=errG 8;unfold callX;rw[hd,hob]
            rfl
          | none=>rw[hl]
         rw[ht];exact call11_no s A n c _ tx w _ _ hg hob
       | true =>
         have hc:=hob;simp only[Q4] at hc;cases ho:zAg s with
         | none =>
           exfalso;have h2:=hc.2;unfold zBK at h2;rw[ho,hl] at h2;cases h2
         | some q =>
           obtain⟨x,y,d⟩:=q;have ht:tabX s pl tx=ownDo s ((pl.map Prod.fst).map Arg.val):=by
            unfold tabX;rw[ho];show callX (okJ pl) s (pl.map Prod.fst) _=_;unfold callX;rw[hd,hob]
            rfl
           rw[ht];have h2:=hc.2;unfold zBK at h2;rw[ho] at h2;simp only[Q4,Bool.not_eq_true'] at h2;rw[hk] at h2;rw[hc.1,hc.2] at hg;refine own11_do ho (pl.map Prod.fst) A n c tx hg h.hr hd h2.1 h2.2 h.aF (fun a ha=> ?_);obtain⟨p,hp,rfl⟩:=List.mem_map.1 ha;obtain⟨j,hj⟩:=List.getElem?_of_mem hp;have h3:=List.all_eq_true.1 hc.1 j (List.mem_range.2 (by rw[<- hn];exact(List.getElem?_eq_some_iff.1 hj).1));rw[okJ_at hj] at h3;exact argOk_may h3
theorem funcsCalls {w:World} {pl:List (Arg×List En)} {A:Option Addr} {n c:Nat} (h:LawIn w pl A n c) (s:ByteArray) (tx:Int) :
  Rt 3 #[.string s,.slice A n c,.int .i64 tx] w (.bool true) :=
 calls_walk s (.slice A n c) tx w (tabX s pl tx) (fun W b hR hb=>(h.below hb).table b hR s tx) (fun W hb=>r11_Call (h.below hb) s tx)
end Go.Proofs.YtnccknhbplaieaaGreatDoor
