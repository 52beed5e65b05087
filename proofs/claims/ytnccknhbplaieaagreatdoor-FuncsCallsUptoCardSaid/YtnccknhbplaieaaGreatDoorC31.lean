/- Parts. -/
import Derived.Test.YtnccknhbplaieaaGreatDoorC29
set_option linter.all false
set_option maxRecDepth 100000
set_option maxHeartbeats 4000000
namespace Go.Proofs.YtnccknhbplaieaaGreatDoor
open Go Go.RowKit Go.Proofs.Tryz
open Go.Lib renaming hid->zh
open _root_.List renaming range->Q3,find?_append->QA,range_succ->QC
open _root_.Nat renaming lt_of_lt_of_le->Q4,le_refl->Q5,add_zero->QB
open _root_.Int renaming mul_le_mul->Q7,tdiv_eq_ediv_of_nonneg->Q8,tmod_eq_emod_of_nonneg->Q9,emod_lt_of_pos->QD
open Go.IntKind renaming wrap_i64->QE
@[go_sem] theorem eq_anyN {n a k:Nat} (h:n<a):(n=a+k)=False:=by simp;omega
@[go_sem] theorem eq_anyM {n a k:Nat} (h:n<a):(a+k=n)=False:=by simp;omega
def scanG (a:Arg) (es:List En) (v:V):Option Nat:=(Q3 (rowsG a*colsG a).toNat).find? fun i:Nat=>eqB (lookG a es ((i:Int) / colsG a,(i:Int) % colsG a)) v
def matchG (a:Arg) (es:List En) (v:V):V:=if 1<rowsG a/\1<colsG a then errG 8 else match scanG a es v with
 | some i=>numG (((i:Int)+1)*10000)
 | none=>errG 6
def lookupG (a:Arg) (es:List En) (a2:Arg) (es2:List En) (v:V):V:=if 1<rowsG a/\1<colsG a then errG 8 else if alikeG a a2=false then errG 8 else match scanG a es v with
 | some i=>lookG a2 es2 ((i:Int) / colsG a,(i:Int) % colsG a)
 | none=>errG 6
theorem range_find_no {p:Nat->Bool} {i:Nat} (h:(Q3 i).find? p=none) (hi:p i=false):(Q3 (i+1)).find? p=none:=by
 rw[QC,QA,h];simp[hi]
theorem range_find_yes {p:Nat->Bool} {i n:Nat} (h:(Q3 i).find? p=none) (hin:i<n) (hi:p i=true):(Q3 n).find? p=some i:=by
 obtain⟨k,rfl⟩:∃ k,n=i+1+k:=⟨n-(i+1),by omega⟩
 induction k with
 | zero =>
   show (Q3 (i+1)).find? p=some i;rw[QC,QA,h];simp[hi]
 | succ k ih =>
   have h1:=ih (by omega);rw[show i+1+(k+1)=(i+1+k)+1 from rfl,QC,QA,h1]
   rfl
theorem aggs_MATCH (a0 a1:Arg) (es1:List En) (b off c:Nat) (tx:Int) (w:World) (hc0:∀ i u,a0.cells[i]? =some u->w.cell? ⟨b,off+0+i,none⟩=some u) (hc1:∀ i u,a1.cells[i]? =some u->w.cell? ⟨b,off+11+i,none⟩=some u) (hE1:zAW w a1 es1) (hs1:zA4 a1) (he1:∀ e∈es1,SmallE e) (hn1:a1.n<=1000000000) (hr1:1<=rowsG a1) (hc1':1<=colsG a1) :
  Rt 246 #[.slice (some ⟨b,off,none⟩) 2 c,.int .i64 tx] w (vG (matchG a1 es1 a0.val)):=by
 obtain⟨c1,c2,c3,c4,c5⟩:=tkV hc0;obtain⟨d0,d1,d2,d3,d4,d5,d6,d7,d8,d9,d10⟩:=tkB hc1;have hb:=cltK c1;have hZ:b<w.heap.size+1:=by omega
 have Ha:b<w.heap.size+1+1:=by omega
 have Hb:b<w.heap.size+1+1+1:=by omega
 simp only[QB] at c1 c2 c3 c4 c5 d0;have HBB:=zh hb;clear hc0 hc1;obtain⟨R,hR⟩:=lt_ (matchG a1 es1 a0.val);rw[hR];unfold matchG scanG at hR;have hF:=zh hR;clear hR;go_enter func246,ntmps246;go_wp2_with fail
 go_cut [5,6] (fun s5 s6 wx=>∃ p5 p6:Nat,s5=.pointer (some ⟨p5,0,none⟩)/\s6=.pointer (some ⟨p6,0,none⟩)/\Below (w.alloc zObj).heap.size (w.alloc zObj) wx/\AtB wx p5 a0.val.cells/\AtB wx p6 a1.cells)
 case first =>
  go_region
  all_goals go_wp2_with fail;all_goals go_meet
  ·exact⟨_,_,rfl,rfl,bel,(AtB.new (cs:=#[.int .i64 a0.val.tag,.int .i64 a0.val.num,.string a0.val.str,.bool a0.val.is,.int .i64 a0.val.code]) (by simp)).allocI _,AtB.new (cs:=#[.bool a1.many,.int .i64 a1.val.tag,.int .i64 a1.val.num,.string a1.val.str,.bool a1.val.is,.int .i64 a1.val.code,.int .i64 a1.top,.int .i64 a1.left,.int .i64 a1.bottom,.int .i64 a1.right,.slice a1.ents a1.n a1.c]) (by simp)⟩
  ·exact⟨_,_,rfl,rfl,bel,AtB.new (cs:=#[.int .i64 a0.val.tag,.int .i64 a0.val.num,.string a0.val.str,.bool a0.val.is,.int .i64 a0.val.code]) (by simp),(AtB.new (cs:=#[.bool a1.many,.int .i64 a1.val.tag,.int .i64 a1.val.num,.string a1.val.str,.bool a1.val.is,.int .i64 a1.val.code,.int .i64 a1.top,.int .i64 a1.left,.int .i64 a1.bottom,.int .i64 a1.right,.slice a1.ents a1.n a1.c]) (by simp)).allocI _⟩
 case rest =>
  obtain⟨p5,p6,rfl,rfl,hv,h5,h6⟩:=hcut;obtain⟨wk,Hg⟩:∃ wk,wk=wc:=⟨_,rfl⟩
  subst Hg;obtain⟨g0,g1,g2,g3,g4⟩:=tk5 h5;obtain⟨k0,k1,k2,k3,k4,k5,k6,k7,k8,k9,k10⟩:=tkB h6;have l5:=cltK g0;have l6:=cltK k0;have hs:=zh hv;have H5:=zh h5;have H6:=zh h6;have hn:=zh (aggs_rows a1 hs1);have hj:=zh (aggs_cols a1 hs1);have hS:=zh (show Below w.heap.size w wk from (show Below w.heap.size w (w.alloc zObj) from bel).trans (hv.mono (by simp)));have HH:=zh (fun W (hb:Below wk.heap.size wk W)=>aggs_held a1 es1 W ((hE1.below hS.out).below hb) hs1 he1 (by omega));have hC:rowsG a1<=200001:=by unfold rowsG;unfold zA4 at hs1;omega
  have hQ:colsG a1<=200001:=by unfold colsG;unfold zA4 at hs1;omega
  have hf:=hF.out;obtain⟨ra,hA⟩:=lt_ (rowsG a1);obtain⟨ca,hy⟩:=lt_ (colsG a1);rw[hA] at hn hC hr1;rw[hy] at hj hQ hc1';rw[hA,hy] at hf;obtain⟨N,hJ⟩:=lt_ ((ra*ca).toNat);rw[hJ] at hf;have He:1<=ra*ca:=Int.le_trans (show (1:Int)<=1*1 by decide) (Q7 hr1 hc1' (by decide) (by omega));have hz:ra*ca<=200001*200001:=Q7 hC hQ (by omega) (by decide);have hY:N<=50000000000:=by omega
  have HN:=zh (show wrap64 (ra*ca)=(N:Int) by rw[wr64 (by omega) (by omega)];omega);have HN2:=zh (show (N:Int)=ra*ca by omega);clear He hz hJ;have HS1:=zh hs1;clear hA hy h5 h6 hv hE1 hs1 he1 c1 c2 c3 c4 c5 d0 d1 d2 d3 d4 d5 d6 d7 d8 d9 d10 hb hZ Ha Hb hF;by_cases hg:1<ra/\1<ca
  ·have hP:(decide (1<ra))=true:=decide_eq_true hg.1;have Hd:(decide (1<ca))=true:=decide_eq_true hg.2;rw[if_pos hg] at hf;have hk:=zh hf.symm;clear hg hf;unfold Arg.agg at *;go_wp2_with fail
   (refine qmI ?_;(repeat(go_big_quiet_step (first|(go_at_call 252;exact Calls.zA1 (hn.out _))|(go_at_call 254;exact Calls.zA1 (hj.out _)))));refine qmE ?_;intro lq nq)
   go_wp2_with(go_at_call 13;refine(zA3 _ _).mono ?_;rintro e w3 ⟨rfl,hb⟩;obtain⟨l3,q3,rfl⟩:=zA0 (bel_chain hs.out hb bel);clear hb)
   all_goals(go_returns;exact⟨by rw[hk.out],bel⟩)
  ·rw[if_neg hg] at hf;have hG:=zh hf;clear hf;unfold Arg.agg at *;go_wp2_with fail
   go_cut [37] (fun s wx=>s=.bool false/\Below wk.heap.size wk wx)
   case first =>
    by_cases hr:1<ra
    have hP:(decide (1<ra))=true:=decide_eq_true hr;have Hd:(decide (1<ca))=false:=decide_eq_false fun h=>hg ⟨hr,h⟩
    rotate_left
    have hP:(decide (1<ra))=false:=decide_eq_false hr;all_goals
     clear hr hg
     (refine qmI ?_;(repeat(go_big_quiet_step (first|(go_at_call 252;exact Calls.zA1 (hn.out _))|(go_at_call 254;exact Calls.zA1 (hj.out _)))));refine qmE ?_;intro lq nq)
     go_wp2_with fail
     go_meet
     exact rb_
   case rest =>
    obtain⟨rfl,hI⟩:=hcut;have ha:=zh hI;clear hI g0 g1 g2 g3 g4 k0 k1 k2 k3 k4 k5 k6 k7 k8 k9 k10;have hl:=ha.out.size;have k0:=cell_below (H6.out 0 _ rfl) ha.out;have k1:=cell_below (H6.out 1 _ rfl) ha.out;have k2:=cell_below (H6.out 2 _ rfl) ha.out;have k3:=cell_below (H6.out 3 _ rfl) ha.out;have k4:=cell_below (H6.out 4 _ rfl) ha.out;have k5:=cell_below (H6.out 5 _ rfl) ha.out;have k6:=cell_below (H6.out 6 _ rfl) ha.out;have k7:=cell_below (H6.out 7 _ rfl) ha.out;have k8:=cell_below (H6.out 8 _ rfl) ha.out;have k9:=cell_below (H6.out 9 _ rfl) ha.out;have k10:=cell_below (H6.out 10 _ rfl) ha.out;have l6c:=cltK k0;go_wp2_with(go_at_call 309;refine(HH.out _ ha.out).mono ?_;rintro e w5 ⟨bm,rfl,hM,Hc,hb⟩;have he:=zh (ha.out.trans (hb.mono hl));have HM:=zh hM;clear hM hb Hc)
    clear k0 k1 k2 k3 k4 k5 k6 k7 k8 k9 k10;have hK:=he.out.size;have l6':p6<w5.heap.size:=by omega
    have k0:=cell_below (H6.out 0 _ rfl) he.out;have k1:=cell_below (H6.out 1 _ rfl) he.out;have k2:=cell_below (H6.out 2 _ rfl) he.out;have k3:=cell_below (H6.out 3 _ rfl) he.out;have k4:=cell_below (H6.out 4 _ rfl) he.out;have k5:=cell_below (H6.out 5 _ rfl) he.out;have k6:=cell_below (H6.out 6 _ rfl) he.out;have k7:=cell_below (H6.out 7 _ rfl) he.out;have k8:=cell_below (H6.out 8 _ rfl) he.out;have k9:=cell_below (H6.out 9 _ rfl) he.out;have k10:=cell_below (H6.out 10 _ rfl) he.out;have s1:=HN.out
    (refine qmI ?_;(repeat(go_big_quiet_step (first|(go_at_call 252;exact Calls.zA1 (hn.out _))|(go_at_call 254;exact Calls.zA1 (hj.out _)))));refine qmE ?_;intro lq nq)
    go_wp2_with fail;obtain⟨WL,ho⟩:∃ WL,WL=more w5 lq nq:=⟨_,rfl⟩
    have hX:=zh ho;have hD:=zh (show Below wk.heap.size wk WL by rw[ho];exact he.out.trans (zAf hK));have hT:=zh (show PlMap prog 273 WL bm (heldP a1 es1) by rw[ho];exact HM.out.at0 (zAf (Q5 _)));clear ho s1 k0 k1 k2 k3 k4 k5 k6 k7 k8 k9 k10 l6' hK hl
    go_loopw [46] (fun t wr=>∃ i:Nat,i<=N/\t=.int .i64 i/\Below WL.heap.size WL wr/\((Q3 i).find? fun i:Nat=>eqB (lookG a1 es1 ((i:Int) / ca,(i:Int) % ca)) a0.val)=none) (fun t _=>N-(intOf t).toNat)
    case atStart=>exact⟨0,Nat.zero_le _,rfl,by rw[hX.out];exact Below.refl _ _,rfl⟩
    case round =>
     obtain⟨i,hi,rfl,hB,hN⟩:=hrel;have hd:Below wk.heap.size wk wr:=hD.out.trans (hB.mono hD.out.size);have l6':p6<wr.heap.size:=Q4 l6 hd.size;have k0:=cell_below (H6.out 0 _ rfl) hd;have k1:=cell_below (H6.out 1 _ rfl) hd;have k2:=cell_below (H6.out 2 _ rfl) hd;have k3:=cell_below (H6.out 3 _ rfl) hd;have k4:=cell_below (H6.out 4 _ rfl) hd;have k5:=cell_below (H6.out 5 _ rfl) hd;have k6:=cell_below (H6.out 6 _ rfl) hd;have k7:=cell_below (H6.out 7 _ rfl) hd;have k8:=cell_below (H6.out 8 _ rfl) hd;have k9:=cell_below (H6.out 9 _ rfl) hd;have k10:=cell_below (H6.out 10 _ rfl) hd;have hU:=zh (hT.out.at0 hB);have HB:=zh hB;have hp:=zh hd;have ht:=zh hN;obtain⟨wj,Hf⟩:∃ wj,wj=wc:=⟨_,rfl⟩
     subst Hf;clear hB hd hN;by_cases hlt:i<N
     ·have hh:(decide ((i:Int)<wrap64 (ra*ca)))=true:=decide_eq_true (by rw[HN.out];omega);have z1:(ca==0)=false:=by simp;omega
      have z2: ¬ ca=0:=by omega
      have hm:=zh (show 0<=(i:Int) / ca/\(i:Int) / ca<=i from ⟨Int.ediv_nonneg (by omega) (by omega),Int.ediv_le_self _ (by omega)⟩);have hu:=zh (show 0<=(i:Int) % ca/\(i:Int) % ca<ca from ⟨Int.emod_nonneg _ (by omega),QD _ (by omega)⟩);have q1:Int.tdiv (i:Int) ca=(i:Int) / ca:=Q8 (by omega);have q2:Int.tmod (i:Int) ca=(i:Int) % ca:=Q9 (by omega);go_wp2_with fail
      go_cut [9] (fun s9 wx=>∃ p9:Nat,s9=.pointer (some ⟨p9,0,none⟩)/\AtB wx p9 [.int .i64 ((i:Int) / ca),.int .i64 ((i:Int) % ca)]/\Below wr.heap.size wr wx)
      case first =>
       have ne0:wr.heap.size≠p6:=by omega
       have hW:=zh (show IntKind.i64.wrap ((i:Int) / ca)=(i:Int) / ca by rw[QE];have:=hm.out;omega);clear hh hi hn1 hr1 hC hY l5 l6 hm hu
       go_region_held3 (fun w'=>w'.cell? ⟨p6,0,none⟩=some (.bool a1.many)/\w'.cell? ⟨p6,1,none⟩=some (.int .i64 a1.val.tag)/\w'.cell? ⟨p6,2,none⟩=some (.int .i64 a1.val.num)/\w'.cell? ⟨p6,3,none⟩=some (.string a1.val.str)/\w'.cell? ⟨p6,4,none⟩=some (.bool a1.val.is)/\w'.cell? ⟨p6,5,none⟩=some (.int .i64 a1.val.code)/\w'.cell? ⟨p6,6,none⟩=some (.int .i64 a1.top)/\w'.cell? ⟨p6,7,none⟩=some (.int .i64 a1.left)/\w'.cell? ⟨p6,8,none⟩=some (.int .i64 a1.bottom)/\w'.cell? ⟨p6,9,none⟩=some (.int .i64 a1.right)/\w'.cell? ⟨p6,10,none⟩=some (.slice a1.ents a1.n a1.c)) (((try dsimp only[vG]);(repeat' apply And.intro)<;>(first|assumption|exact cell_below (w:=wr) (by assumption) bel))) (first|(go_at_call 254;refine mB (hj.out _) ?_;intro l6 q6))
       all_goals go_wp2_with fail;all_goals go_meet;all_goals rw[hW.out];all_goals first|exact⟨_,rfl,AtB.new (by simp),bel⟩|exact⟨_,rfl,(AtB.new (by simp)).below (zAf (Q5 _)),bel⟩
      case rest =>
       obtain⟨p9,rfl,h9,hw⟩:=hcut;have x0:=h9 0 _ rfl;have x1:=h9 1 _ rfl;have hc:Below wk.heap.size wk wc:=hp.out.trans (hw.mono hp.out.size);have hE:=zh hc;have hq:=zh hw;have l9:=cltK x0;have l5c:p5<wc.heap.size:=Q4 l5 hc.size;have g0:=cell_below (H5.out 0 _ rfl) hc;have g1:=cell_below (H5.out 1 _ rfl) hc;have g2:=cell_below (H5.out 2 _ rfl) hc;have g3:=cell_below (H5.out 3 _ rfl) hc;have g4:=cell_below (H5.out 4 _ rfl) hc;have hV:=zh (show Ok64 ((i:Int) / ca,(i:Int) % ca) from ⟨⟨by have:=hm.out;simp only;omega,by have:=hm.out;simp only;omega⟩,⟨by have:=hu.out;simp only;omega,by have:=hu.out;simp only;omega⟩⟩);obtain⟨g,hg⟩:=lt_ (lookG a1 es1 ((i:Int) / ca,(i:Int) % ca));have hL:∀ l n,(Instr.lookup 270 (.map (some bm)) (.agg #[.int .i64 ((i:Int) / ca),.int .i64 ((i:Int) % ca)]) false).run prog (more wc l n)=.ok (vG g) (more wc l n):=fun l n=>by
        have h:=((hU.out.at0 hq.out).at0 (zAf (l:=l) (n:=n) (Q5 _))).look1 place_key underlying270 (zero_V _) ((i:Int) / ca,(i:Int) % ca) hV.out;rw[lookG_eq,hg] at h;exact h
       have hO:=neqV g.tag g.num g.str g.is g.code a0.val.tag a0.val.num a0.val.str a0.val.is a0.val.code;obtain⟨bz,hx⟩:=lt_ (eqB g a0.val);have hH:=zh (show eqB (lookG a1 es1 ((i:Int) / ca,(i:Int) % ca)) a0.val=bz by rw[hg];exact hx);rw[show eqB ⟨g.tag,g.num,g.str,g.is,g.code⟩ ⟨a0.val.tag,a0.val.num,a0.val.str,a0.val.is,a0.val.code⟩=bz from hx] at hO;clear h9 hw hc hg hx k0 k1 k2 k3 k4 k5 k6 k7 k8 k9 k10 l6' q1 q2 z1 z2 hh;go_wp2_with fail
       (refine qmI ?_;(repeat(go_big_quiet_step (fail)));refine qmE ?_;intro lq nq)
       clear hL hO g0 g1 g2 g3 g4;cases bz
       ·go_wp2_with fail;go_roundw;case rel=>exact⟨i+1,by omega,by go_num,HB.out.trans ((hq.out.trans (zAf hq.out.size)).mono HB.out.size),range_find_no ht.out hH.out⟩
        case measure=>simp[intOf];omega
       ·have hk:=zh (show R=numG (((i:Int)+1)*10000) from by rw[<- hG.out,range_find_yes ht.out hlt hH.out]);have w1:wrap64 ((i:Int)+1)=(i:Int)+1:=wr64 (by omega) (by omega);clear x0 x1 l9 l5c;go_wp2_with(go_at_call 251;refine(aggs_whole ((i:Int)+1) (by omega) (by omega) _).mono ?_;rintro e w3 ⟨rfl,hb⟩;obtain⟨l3,q3,rfl⟩:=zA0 (bel_chain hs.out hb (hE.out.trans (zAf hE.out.size)));clear hb)
        all_goals(go_returns;exact⟨by rw[hk.out],bel⟩)
     ·obtain rfl:i=N:=by omega
      have hh:(decide ((i:Int)<wrap64 (ra*ca)))=false:=decide_eq_false (by rw[HN.out];omega);have hk:=zh (show R=errG 6 from by rw[<- hG.out,ht.out]);clear k0 k1 k2 k3 k4 k5 k6 k7 k8 k9 k10 l6' hlt;go_wp2_with(go_at_call 13;refine(zA3 _ _).mono ?_;rintro e w3 ⟨rfl,hb⟩;obtain⟨l3,q3,rfl⟩:=zA0 (bel_chain hs.out hb hp.out);clear hb)
      all_goals(go_returns;exact⟨by rw[hk.out],bel⟩)
theorem aggs_LOOKUP (a0 a1 a2:Arg) (es1 es2:List En) (b off c:Nat) (tx:Int) (w:World) (hc0:∀ i u,a0.cells[i]? =some u->w.cell? ⟨b,off+0+i,none⟩=some u) (hc1:∀ i u,a1.cells[i]? =some u->w.cell? ⟨b,off+11+i,none⟩=some u) (hc2:∀ i u,a2.cells[i]? =some u->w.cell? ⟨b,off+22+i,none⟩=some u) (hE1:zAW w a1 es1) (hE2:zAW w a2 es2) (hs1:zA4 a1) (hs2:zA4 a2) (he1:∀ e∈es1,SmallE e) (he2:∀ e∈es2,SmallE e) (hn1:a1.n<=1000000000) (hn2:a2.n<=1000000000) (hr1:1<=rowsG a1) (hc1':1<=colsG a1) :
  Rt 246 #[.slice (some ⟨b,off,none⟩) 3 c,.int .i64 tx] w (vG (lookupG a1 es1 a2 es2 a0.val)):=by
 obtain⟨c1,c2,c3,c4,c5⟩:=tkV hc0;obtain⟨d0,d1,d2,d3,d4,d5,d6,d7,d8,d9,d10⟩:=tkB hc1;have hb:=cltK c1;have Hp:b<w.heap.size+1:=by omega
 have Hq:b<w.heap.size+1+1:=by omega
 have Hr:b<w.heap.size+1+1+1:=by omega
 simp only[QB] at c1 c2 c3 c4 c5 d0;have Hg:=zh hc2;have HBB:=zh hb;clear hc0 hc1 hc2;obtain⟨R,hR⟩:=lt_ (lookupG a1 es1 a2 es2 a0.val);rw[hR];unfold lookupG scanG at hR;have hV:=zh hR;clear hR;go_enter func246,ntmps246;go_wp2_with fail
 go_cut [5,6] (fun s5 s6 wx=>∃ p5 p6:Nat,s5=.pointer (some ⟨p5,0,none⟩)/\s6=.pointer (some ⟨p6,0,none⟩)/\Below (w.alloc zObj).heap.size (w.alloc zObj) wx/\AtB wx p5 a0.val.cells/\AtB wx p6 a1.cells)
 case first =>
  go_region
  all_goals go_wp2_with fail;all_goals go_meet
  ·exact⟨_,_,rfl,rfl,bel,(AtB.new (cs:=#[.int .i64 a0.val.tag,.int .i64 a0.val.num,.string a0.val.str,.bool a0.val.is,.int .i64 a0.val.code]) (by simp)).allocI _,AtB.new (cs:=#[.bool a1.many,.int .i64 a1.val.tag,.int .i64 a1.val.num,.string a1.val.str,.bool a1.val.is,.int .i64 a1.val.code,.int .i64 a1.top,.int .i64 a1.left,.int .i64 a1.bottom,.int .i64 a1.right,.slice a1.ents a1.n a1.c]) (by simp)⟩
  ·exact⟨_,_,rfl,rfl,bel,AtB.new (cs:=#[.int .i64 a0.val.tag,.int .i64 a0.val.num,.string a0.val.str,.bool a0.val.is,.int .i64 a0.val.code]) (by simp),(AtB.new (cs:=#[.bool a1.many,.int .i64 a1.val.tag,.int .i64 a1.val.num,.string a1.val.str,.bool a1.val.is,.int .i64 a1.val.code,.int .i64 a1.top,.int .i64 a1.left,.int .i64 a1.bottom,.int .i64 a1.right,.slice a1.ents a1.n a1.c]) (by simp)).allocI _⟩
 case rest =>
  obtain⟨p5,p6,rfl,rfl,hC,h5,h6⟩:=hcut;obtain⟨wk,Hw⟩:∃ wk,wk=wc:=⟨_,rfl⟩
  subst Hw;obtain⟨g0,g1,g2,g3,g4⟩:=tk5 h5;obtain⟨k0,k1,k2,k3,k4,k5,k6,k7,k8,k9,k10⟩:=tkB h6;have l5:=cltK g0;have l6:=cltK k0;have hp:=zh hC;have H5:=zh h5;have H6:=zh h6;have hl:=zh (aggs_rows a1 hs1);have hk:=zh (aggs_cols a1 hs1);have hw:=zh (show Below w.heap.size w wk from (show Below w.heap.size w (w.alloc zObj) from bel).trans (hC.mono (by simp)));have HH:=zh (fun W (hb:Below wk.heap.size wk W)=>aggs_held a1 es1 W ((hE1.below hw.out).below hb) hs1 he1 (by omega));have Hj:=zh (fun W (hb:Below wk.heap.size wk W)=>aggs_held a2 es2 W ((hE2.below hw.out).below hb) hs2 he2 (by omega));have hv:=zh (aggs_alike a1 a2 hs1 hs2);have hT:=zh (fun i u hu=>cell_below (Hg.out i u hu) hw.out);obtain⟨f0,f1,f2,f3,f4,f5,f6,f7,f8,f9,f10⟩:=tkB hT.out;simp only[QB] at f0;have hbk:=cltK f0;obtain⟨al,hE⟩:=lt_ (alikeG a1 a2);rw[hE] at hv;have hO:rowsG a1<=200001:=by unfold rowsG;unfold zA4 at hs1;omega
  have Hf:colsG a1<=200001:=by unfold colsG;unfold zA4 at hs1;omega
  have hf:=hV.out;rw[hE] at hf;obtain⟨ra,hN⟩:=lt_ (rowsG a1);obtain⟨ca,hI⟩:=lt_ (colsG a1);rw[hN] at hl hO hr1;rw[hI] at hk Hf hc1';rw[hN,hI] at hf;obtain⟨N,Ha⟩:=lt_ ((ra*ca).toNat);rw[Ha] at hf;have Ht:1<=ra*ca:=Int.le_trans (show (1:Int)<=1*1 by decide) (Q7 hr1 hc1' (by decide) (by omega));have hK:ra*ca<=200001*200001:=Q7 hO Hf (by omega) (by decide);have Ho:N<=50000000000:=by omega
  have HN:=zh (show wrap64 (ra*ca)=(N:Int) by rw[wr64 (by omega) (by omega)];omega);have HN2:=zh (show (N:Int)=ra*ca by omega);clear Ht hK Ha;have HS1:=zh hs1;clear hN hI h5 h6 hC hE1 hs1 he1 c1 c2 c3 c4 c5 d0 d1 d2 d3 d4 d5 d6 d7 d8 d9 d10 hb Hp Hq Hr hV hE hE2 hs2 he2;by_cases hg:1<ra/\1<ca
  ·have ht:(decide (1<ra))=true:=decide_eq_true hg.1;have Hc:(decide (1<ca))=true:=decide_eq_true hg.2;rw[if_pos hg] at hf;have hh:=zh hf.symm;clear hg hf;unfold Arg.agg at *;go_wp2_with fail
   (refine qmI ?_;(repeat(go_big_quiet_step (first|(go_at_call 252;exact Calls.zA1 (hl.out _))|(go_at_call 254;exact Calls.zA1 (hk.out _)))));refine qmE ?_;intro lq nq)
   go_wp2_with(go_at_call 13;refine(zA3 _ _).mono ?_;rintro e w3 ⟨rfl,hb⟩;obtain⟨l3,q3,rfl⟩:=zA0 (bel_chain hp.out hb bel);clear hb)
   all_goals(go_returns;exact⟨by rw[hh.out],bel⟩)
  ·rw[if_neg hg] at hf;cases al
   ·rw[if_pos rfl] at hf;have hh:=zh hf.symm;clear hf;unfold Arg.agg at *;have ho:∀ P:Prop,(1<ra->decide (1<ra)=true->decide (1<ca)=false->P)->(decide (1<ra)=false->P)->P:=fun P h1 h2=>by
     by_cases hr:1<ra
     ·exact h1 hr (decide_eq_true hr) (decide_eq_false fun h=>hg ⟨hr,h⟩)
     ·exact h2 (decide_eq_false hr)
    clear hg;refine ho _ (fun _ ht Hc=> ?_) (fun ht=> ?_);all_goals clear ho;all_goals go_wp2_with fail;all_goals(refine qmI ?_;(repeat(go_big_quiet_step (first|(go_at_call 252;exact Calls.zA1 (hl.out _))|(go_at_call 254;exact Calls.zA1 (hk.out _))|(go_at_call 308;exact Calls.zA1 (hv.out _)))));refine qmE ?_;intro lq nq);all_goals go_wp2_with(go_at_call 13;refine(zA3 _ _).mono ?_;rintro e w3 ⟨rfl,hb⟩;obtain⟨l3,q3,rfl⟩:=zA0 (bel_chain hp.out hb bel);clear hb)
    all_goals(go_returns;exact⟨by rw[hh.out],bel⟩)
   rw[if_neg (show ¬ (true=false) by decide)] at hf;have hW:=zh hf;clear hf;unfold Arg.agg at *;go_wp2_with fail
   go_cut [37] (fun s wx=>s=.bool false/\Below wk.heap.size wk wx)
   case first =>
    by_cases hr:1<ra
    have ht:(decide (1<ra))=true:=decide_eq_true hr;have Hc:(decide (1<ca))=false:=decide_eq_false fun h=>hg ⟨hr,h⟩
    rotate_left
    have ht:(decide (1<ra))=false:=decide_eq_false hr;all_goals
     clear hr hg
     (refine qmI ?_;(repeat(go_big_quiet_step (first|(go_at_call 252;exact Calls.zA1 (hl.out _))|(go_at_call 254;exact Calls.zA1 (hk.out _))|(go_at_call 308;exact Calls.zA1 (hv.out _)))));refine qmE ?_;intro lq nq)
     go_wp2_with fail
     go_meet
     exact rb_
   case rest =>
    obtain⟨rfl,hY⟩:=hcut;have ha:=zh hY;clear hY g0 g1 g2 g3 g4 k0 k1 k2 k3 k4 k5 k6 k7 k8 k9 k10 f0 f1 f2 f3 f4 f5 f6 f7 f8 f9 f10;have hn:=ha.out.size;have k0:=cell_below (H6.out 0 _ rfl) ha.out;have k1:=cell_below (H6.out 1 _ rfl) ha.out;have k2:=cell_below (H6.out 2 _ rfl) ha.out;have k3:=cell_below (H6.out 3 _ rfl) ha.out;have k4:=cell_below (H6.out 4 _ rfl) ha.out;have k5:=cell_below (H6.out 5 _ rfl) ha.out;have k6:=cell_below (H6.out 6 _ rfl) ha.out;have k7:=cell_below (H6.out 7 _ rfl) ha.out;have k8:=cell_below (H6.out 8 _ rfl) ha.out;have k9:=cell_below (H6.out 9 _ rfl) ha.out;have k10:=cell_below (H6.out 10 _ rfl) ha.out;have l6c:=cltK k0;go_wp2_with(go_at_call 309;refine(HH.out _ ha.out).mono ?_;rintro e w5 ⟨bm,rfl,hM,hG,hb⟩;have he:=zh (ha.out.trans (hb.mono hn));have HM:=zh hM;clear hM hb hG)
    clear k0 k1 k2 k3 k4 k5 k6 k7 k8 k9 k10;have Hb:=he.out.size;have l6':p6<w5.heap.size:=by omega
    have k0:=cell_below (H6.out 0 _ rfl) he.out;have k1:=cell_below (H6.out 1 _ rfl) he.out;have k2:=cell_below (H6.out 2 _ rfl) he.out;have k3:=cell_below (H6.out 3 _ rfl) he.out;have k4:=cell_below (H6.out 4 _ rfl) he.out;have k5:=cell_below (H6.out 5 _ rfl) he.out;have k6:=cell_below (H6.out 6 _ rfl) he.out;have k7:=cell_below (H6.out 7 _ rfl) he.out;have k8:=cell_below (H6.out 8 _ rfl) he.out;have k9:=cell_below (H6.out 9 _ rfl) he.out;have k10:=cell_below (H6.out 10 _ rfl) he.out;have s1:=HN.out
    (refine qmI ?_;(repeat(go_big_quiet_step (first|(go_at_call 252;exact Calls.zA1 (hl.out _))|(go_at_call 254;exact Calls.zA1 (hk.out _)))));refine qmE ?_;intro lq nq)
    go_wp2_with fail;obtain⟨WL,hs⟩:∃ WL,WL=more w5 lq nq:=⟨_,rfl⟩
    have Hn:=zh hs;have hP:=zh (show Below wk.heap.size wk WL by rw[hs];exact he.out.trans (zAf Hb));have Hk:=zh (show PlMap prog 273 WL bm (heldP a1 es1) by rw[hs];exact HM.out.at0 (zAf (Q5 _)));clear hs s1 k0 k1 k2 k3 k4 k5 k6 k7 k8 k9 k10 l6' Hb hn
    go_loopw [46] (fun t wr=>∃ i:Nat,i<=N/\t=.int .i64 i/\Below WL.heap.size WL wr/\((Q3 i).find? fun i:Nat=>eqB (lookG a1 es1 ((i:Int) / ca,(i:Int) % ca)) a0.val)=none) (fun t _=>N-(intOf t).toNat)
    case atStart=>exact⟨0,Nat.zero_le _,rfl,by rw[Hn.out];exact Below.refl _ _,rfl⟩
    case round =>
     obtain⟨i,hi,rfl,hB,Hd⟩:=hrel;have hd:Below wk.heap.size wk wr:=hP.out.trans (hB.mono hP.out.size);have l6':p6<wr.heap.size:=Q4 l6 hd.size;have k0:=cell_below (H6.out 0 _ rfl) hd;have k1:=cell_below (H6.out 1 _ rfl) hd;have k2:=cell_below (H6.out 2 _ rfl) hd;have k3:=cell_below (H6.out 3 _ rfl) hd;have k4:=cell_below (H6.out 4 _ rfl) hd;have k5:=cell_below (H6.out 5 _ rfl) hd;have k6:=cell_below (H6.out 6 _ rfl) hd;have k7:=cell_below (H6.out 7 _ rfl) hd;have k8:=cell_below (H6.out 8 _ rfl) hd;have k9:=cell_below (H6.out 9 _ rfl) hd;have k10:=cell_below (H6.out 10 _ rfl) hd;have Hl:=zh (Hk.out.at0 hB);have HB:=zh hB;have hx:=zh hd;have hz:=zh Hd;obtain⟨wj,Hv⟩:∃ wj,wj=wc:=⟨_,rfl⟩
     subst Hv;clear hB hd Hd;by_cases hlt:i<N
     ·have hj:(decide ((i:Int)<wrap64 (ra*ca)))=true:=decide_eq_true (by rw[HN.out];omega);have z1:(ca==0)=false:=by simp;omega
      have z2: ¬ ca=0:=by omega
      have hq:=zh (show 0<=(i:Int) / ca/\(i:Int) / ca<=i from ⟨Int.ediv_nonneg (by omega) (by omega),Int.ediv_le_self _ (by omega)⟩);have hA:=zh (show 0<=(i:Int) % ca/\(i:Int) % ca<ca from ⟨Int.emod_nonneg _ (by omega),QD _ (by omega)⟩);have q1:Int.tdiv (i:Int) ca=(i:Int) / ca:=Q8 (by omega);have q2:Int.tmod (i:Int) ca=(i:Int) % ca:=Q9 (by omega);go_wp2_with fail
      go_cut [9] (fun s9 wx=>∃ p9:Nat,s9=.pointer (some ⟨p9,0,none⟩)/\AtB wx p9 [.int .i64 ((i:Int) / ca),.int .i64 ((i:Int) % ca)]/\Below wr.heap.size wr wx)
      case first =>
       have ne0:wr.heap.size≠p6:=by omega
       have Hm:=zh (show IntKind.i64.wrap ((i:Int) / ca)=(i:Int) / ca by rw[QE];have:=hq.out;omega);clear hj hi hn1 hr1 hO Ho l5 l6 hq hA
       go_region_held3 (fun w'=>w'.cell? ⟨p6,0,none⟩=some (.bool a1.many)/\w'.cell? ⟨p6,1,none⟩=some (.int .i64 a1.val.tag)/\w'.cell? ⟨p6,2,none⟩=some (.int .i64 a1.val.num)/\w'.cell? ⟨p6,3,none⟩=some (.string a1.val.str)/\w'.cell? ⟨p6,4,none⟩=some (.bool a1.val.is)/\w'.cell? ⟨p6,5,none⟩=some (.int .i64 a1.val.code)/\w'.cell? ⟨p6,6,none⟩=some (.int .i64 a1.top)/\w'.cell? ⟨p6,7,none⟩=some (.int .i64 a1.left)/\w'.cell? ⟨p6,8,none⟩=some (.int .i64 a1.bottom)/\w'.cell? ⟨p6,9,none⟩=some (.int .i64 a1.right)/\w'.cell? ⟨p6,10,none⟩=some (.slice a1.ents a1.n a1.c)) (((try dsimp only[vG]);(repeat' apply And.intro)<;>(first|assumption|exact cell_below (w:=wr) (by assumption) bel))) (first|(go_at_call 254;refine mB (hk.out _) ?_;intro l6 q6))
       all_goals go_wp2_with fail;all_goals go_meet;all_goals rw[Hm.out];all_goals first|exact⟨_,rfl,AtB.new (by simp),bel⟩|exact⟨_,rfl,(AtB.new (by simp)).below (zAf (Q5 _)),bel⟩
      case rest =>
       obtain⟨p9,rfl,h9,hD⟩:=hcut;have x0:=h9 0 _ rfl;have x1:=h9 1 _ rfl;have hc:Below wk.heap.size wk wc:=hx.out.trans (hD.mono hx.out.size);have hS:=zh hc;have hy:=zh hD;have l9:=cltK x0;have l5c:p5<wc.heap.size:=Q4 l5 hc.size;have g0:=cell_below (H5.out 0 _ rfl) hc;have g1:=cell_below (H5.out 1 _ rfl) hc;have g2:=cell_below (H5.out 2 _ rfl) hc;have g3:=cell_below (H5.out 3 _ rfl) hc;have g4:=cell_below (H5.out 4 _ rfl) hc;have hU:=zh (show Ok64 ((i:Int) / ca,(i:Int) % ca) from ⟨⟨by have:=hq.out;simp only;omega,by have:=hq.out;simp only;omega⟩,⟨by have:=hA.out;simp only;omega,by have:=hA.out;simp only;omega⟩⟩);obtain⟨g,hg⟩:=lt_ (lookG a1 es1 ((i:Int) / ca,(i:Int) % ca));have hL:∀ l n,(Instr.lookup 270 (.map (some bm)) (.agg #[.int .i64 ((i:Int) / ca),.int .i64 ((i:Int) % ca)]) false).run prog (more wc l n)=.ok (vG g) (more wc l n):=fun l n=>by
        have h:=((Hl.out.at0 hy.out).at0 (zAf (l:=l) (n:=n) (Q5 _))).look1 place_key underlying270 (zero_V _) ((i:Int) / ca,(i:Int) % ca) hU.out;rw[lookG_eq,hg] at h;exact h
       have He:=neqV g.tag g.num g.str g.is g.code a0.val.tag a0.val.num a0.val.str a0.val.is a0.val.code;obtain⟨bz,hH⟩:=lt_ (eqB g a0.val);have hX:=zh (show eqB (lookG a1 es1 ((i:Int) / ca,(i:Int) % ca)) a0.val=bz by rw[hg];exact hH);rw[show eqB ⟨g.tag,g.num,g.str,g.is,g.code⟩ ⟨a0.val.tag,a0.val.num,a0.val.str,a0.val.is,a0.val.code⟩=bz from hH] at He;clear h9 hD hc hg hH k0 k1 k2 k3 k4 k5 k6 k7 k8 k9 k10 l6' q1 q2 z1 z2 hj;go_wp2_with fail
       (refine qmI ?_;(repeat(go_big_quiet_step (fail)));refine qmE ?_;intro lq nq)
       clear hL He g0 g1 g2 g3 g4;cases bz
       ·go_wp2_with fail;go_roundw;case rel=>exact⟨i+1,by omega,by go_num,HB.out.trans ((hy.out.trans (zAf hy.out.size)).mono HB.out.size),range_find_no hz.out hX.out⟩
        case measure=>simp[intOf];omega
       ·have hh:=zh (show R=lookG a2 es2 ((i:Int) / ca,(i:Int) % ca) from by rw[<- hW.out,range_find_yes hz.out hlt hX.out]);obtain⟨g2,hJ⟩:=lt_ (lookG a2 es2 ((i:Int) / ca,(i:Int) % ca));rw[hJ] at hh;have Hi:=zh hJ;obtain⟨W9,hm⟩:∃ W9,W9=more wc lq nq:=⟨_,rfl⟩
        rw[<- hm];have hF:Below wk.heap.size wk W9:=by rw[hm];exact hS.out.trans (zAf hS.out.size)
        have x0:=(show W9.cell? ⟨p9,0,none⟩=some (.int .i64 ((i:Int) / ca)) by rw[hm];exact(more_cell l9).trans x0)
        have x1:=(show W9.cell? ⟨p9,1,none⟩=some (.int .i64 ((i:Int) % ca)) by rw[hm];exact(more_cell l9).trans x1)
        have l9:=cltK x0;have Hh:=zh (fun i u hu=>cell_below (hT.out i u hu) hF);obtain⟨f0,f1,f2,f3,f4,f5,f6,f7,f8,f9,f10⟩:=tkB Hh.out;simp only[QB] at f0;have Hs:=cltK f0;have hQ:=zh hF;have X0:=zh x0;have X1:=zh x1;clear hJ hm hF l5c;go_wp2_with fail;go_region_with (first|(go_at_call 309;refine(Hj.out _ (by have h9:=hQ.out;repeat(first|exact h9|refine Below.drew ?_|refine below_drewN ?_ _))).mono ?_;rintro e w6 ⟨bm2,rfl,hM,hG,hb⟩;have y0:=cell_below (w:=W9.drew) X0.out hb;have y1:=cell_below (w:=W9.drew) X1.out hb;have hZ:=hM;obtain⟨l6,q6,Hu⟩:=zA0 (bel_chain hp.out hb (by have h9:=hQ.out;repeat(first|exact h9|refine Below.drew ?_|refine below_drewN ?_ _)));subst Hu;have hL2:(Instr.lookup 270 (.map (some bm2)) (.agg #[.int .i64 ((i:Int) / ca),.int .i64 ((i:Int) % ca)]) false).run prog (more (w.alloc zObj) l6 q6)=.ok (vG g2) (more (w.alloc zObj) l6 q6):=(by have h:=hZ.look1 place_key underlying270 (zero_V _) ((i:Int) / ca,(i:Int) % ca) hU.out;rw[lookG_eq,Hi.out] at h;exact h);clear hM hZ hG hb))
        all_goals go_wp2_with fail;all_goals(go_returns;exact⟨by rw[hh.out],bel⟩)
     ·obtain rfl:i=N:=by omega
      have hj:(decide ((i:Int)<wrap64 (ra*ca)))=false:=decide_eq_false (by rw[HN.out];omega);have hh:=zh (show R=errG 6 from by rw[<- hW.out,hz.out]);clear k0 k1 k2 k3 k4 k5 k6 k7 k8 k9 k10 l6' hlt;go_wp2_with(go_at_call 13;refine(zA3 _ _).mono ?_;rintro e w3 ⟨rfl,hb⟩;obtain⟨l3,q3,rfl⟩:=zA0 (bel_chain hp.out hb hx.out);clear hb)
      all_goals(go_returns;exact⟨by rw[hh.out],bel⟩)
end Go.Proofs.YtnccknhbplaieaaGreatDoor
