/- Parts. -/
import Derived.Test.YtppghgnhlgoagaaGreatDoorG31
set_option linter.all false
set_option maxRecDepth 100000
set_option maxHeartbeats 4000000
namespace Go.Proofs.YtppghgnhlgoagaaGreatDoor
open Go Go.RowKit
open Go.Lib renaming hid->zh
@[go_sem] theorem eq_anyN {n a k:Nat} (h:n<a):(n=a+k)=False:=by simp;omega
@[go_sem] theorem eq_anyM {n a k:Nat} (h:n<a):(a+k=n)=False:=by simp;omega
def scanG (a:Arg) (es:List En) (v:V):Option Nat:=(List.range (zBm a*zBl a).toNat).find? fun i:Nat=>eqB (lookG a es ((i:Int) / zBl a,(i:Int) % zBl a)) v
def matchG (a:Arg) (es:List En) (v:V):V:=if 1<zBm a/\1<zBl a then errG 8 else match scanG a es v with
 | some i=>numG (((i:Int)+1)*10000)
 | none=>errG 6
def lookupG (a:Arg) (es:List En) (a2:Arg) (es2:List En) (v:V):V:=if 1<zBm a/\1<zBl a then errG 8 else if alikeG a a2=false then errG 8 else match scanG a es v with
 | some i=>lookG a2 es2 ((i:Int) / zBl a,(i:Int) % zBl a)
 | none=>errG 6
theorem range_find_no {p:Nat->Bool} {i:Nat} (h:(List.range i).find? p=none) (hi:p i=false):(List.range (i+1)).find? p=none:=by
 rw[List.range_succ,List.find?_append,h]
 simp[hi]
theorem range_find_yes {p:Nat->Bool} {i n:Nat} (h:(List.range i).find? p=none) (hin:i<n) (hi:p i=true):(List.range n).find? p=some i:=by
 obtain⟨k,rfl⟩:∃ k,n=i+1+k:=⟨n-(i+1),by omega⟩
 induction k with
 | zero =>
   show (List.range (i+1)).find? p=some i
   rw[List.range_succ,List.find?_append,h]
   simp[hi]
 | succ k ih =>
   have h1:=ih (by omega)
   rw[show i+1+(k+1)=(i+1+k)+1 from rfl,List.range_succ,List.find?_append,h1]
   rfl
theorem aggs_MATCH (a0 a1:Arg) (es1:List En) (b off c:Nat) (tx:Int) (w:World) (hc0:∀ i u,a0.cells[i]? =some u->w.cell? ⟨b,off+0+i,none⟩=some u) (hc1:∀ i u,a1.cells[i]? =some u->w.cell? ⟨b,off+11+i,none⟩=some u) (hE1:zAt w a1 es1) (hs1:zAQ a1) (he1:∀ e∈es1,SmallE e) (hn1:a1.n<=1000000000) (hr1:1<=zBm a1) (hc1':1<=zBl a1) :
  Rt 217 #[.slice (some ⟨b,off,none⟩) 2 c,.int .i64 tx] w (vG (matchG a1 es1 a0.val)):=by
 have c1:=hc0 1 _ rfl
 have c2:=hc0 2 _ rfl
 have c3:=hc0 3 _ rfl
 have c4:=hc0 4 _ rfl
 have c5:=hc0 5 _ rfl
 have d0:=hc1 0 _ rfl
 have d1:=hc1 1 _ rfl
 have d2:=hc1 2 _ rfl
 have d3:=hc1 3 _ rfl
 have d4:=hc1 4 _ rfl
 have d5:=hc1 5 _ rfl
 have d6:=hc1 6 _ rfl
 have d7:=hc1 7 _ rfl
 have d8:=hc1 8 _ rfl
 have d9:=hc1 9 _ rfl
 have d10:=hc1 10 _ rfl
 have hb:=cltK c1
 have hb1:b<w.heap.size+1:=by omega
 have hb2:b<w.heap.size+1+1:=by omega
 have hb3:b<w.heap.size+1+1+1:=by omega
 simp only[Nat.add_zero] at c1 c2 c3 c4 c5 d0
 have HBB:=zh hb
 clear hc0 hc1
 obtain⟨R,hR⟩:∃ R,matchG a1 es1 a0.val=R:=⟨_,rfl⟩
 rw[hR]
 unfold matchG scanG at hR
 have HRX:=zh hR
 clear hR
 go_enter Tryz.func217,Tryz.ntmps217
 go_wp2_with fail
 go_cut [5,6] (fun s5 s6 wx=>∃ p5 p6:Nat,s5=.pointer (some ⟨p5,0,none⟩)/\s6=.pointer (some ⟨p6,0,none⟩)/\Below (w.alloc zObj).heap.size (w.alloc zObj) wx/\AtB wx p5 a0.val.cells/\AtB wx p6 a1.cells)
 case first =>
  go_region
  all_goals go_wp2_with fail
  all_goals go_meet
  ·exact⟨_,_,rfl,rfl,bel,(AtB.new (cs:=#[.int .i64 a0.val.tag,.int .i64 a0.val.num,.string a0.val.str,.bool a0.val.is,.int .i64 a0.val.code]) (by simp)).zAv _,AtB.new (cs:=#[.bool a1.many,.int .i64 a1.val.tag,.int .i64 a1.val.num,.string a1.val.str,.bool a1.val.is,.int .i64 a1.val.code,.int .i64 a1.top,.int .i64 a1.left,.int .i64 a1.bottom,.int .i64 a1.right,.slice a1.ents a1.n a1.c]) (by simp)⟩
  ·exact⟨_,_,rfl,rfl,bel,AtB.new (cs:=#[.int .i64 a0.val.tag,.int .i64 a0.val.num,.string a0.val.str,.bool a0.val.is,.int .i64 a0.val.code]) (by simp),(AtB.new (cs:=#[.bool a1.many,.int .i64 a1.val.tag,.int .i64 a1.val.num,.string a1.val.str,.bool a1.val.is,.int .i64 a1.val.code,.int .i64 a1.top,.int .i64 a1.left,.int .i64 a1.bottom,.int .i64 a1.right,.slice a1.ents a1.n a1.c]) (by simp)).zAv _⟩
 case rest =>
  obtain⟨p5,p6,rfl,rfl,hBZ,h5,h6⟩:=hcut
  obtain⟨wk,hwk⟩:∃ wk,wk=wc:=⟨_,rfl⟩
  subst hwk
  have g0:=h5 0 _ rfl
  have g1:=h5 1 _ rfl
  have g2:=h5 2 _ rfl
  have g3:=h5 3 _ rfl
  have g4:=h5 4 _ rfl
  have k0:=h6 0 _ rfl
  have k1:=h6 1 _ rfl
  have k2:=h6 2 _ rfl
  have k3:=h6 3 _ rfl
  have k4:=h6 4 _ rfl
  have k5:=h6 5 _ rfl
  have k6:=h6 6 _ rfl
  have k7:=h6 7 _ rfl
  have k8:=h6 8 _ rfl
  have k9:=h6 9 _ rfl
  have k10:=h6 10 _ rfl
  have l5:=cltK g0
  have l6:=cltK k0
  have HBZ:=zh hBZ
  have H5:=zh h5
  have H6:=zh h6
  have HRW:=zh (aggs_rows a1 hs1)
  have HCL:=zh (aggs_cols a1 hs1)
  have HB0:=zh (show Below w.heap.size w wk from (show Below w.heap.size w (w.alloc zObj) from bel).trans (hBZ.mono (by simp)))
  have HH:=zh (fun W (hb:Below wk.heap.size wk W)=>aggs_held a1 es1 W ((hE1.below HB0.out).below hb) hs1 he1 (by omega))
  have hsr:zBm a1<=200001:=by unfold zBm;unfold zAQ at hs1;omega
  have hsc:zBl a1<=200001:=by unfold zBl;unfold zAQ at hs1;omega
  have hRX:=HRX.out
  obtain⟨ra,hra⟩:∃ ra,zBm a1=ra:=⟨_,rfl⟩
  obtain⟨ca,hca⟩:∃ ca,zBl a1=ca:=⟨_,rfl⟩
  rw[hra] at HRW hsr hr1
  rw[hca] at HCL hsc hc1'
  rw[hra,hca] at hRX
  obtain⟨N,hNN⟩:∃ N:Nat,(ra*ca).toNat=N:=⟨_,rfl⟩
  rw[hNN] at hRX
  have hpr:1<=ra*ca:=Int.le_trans (show (1:Int)<=1*1 by decide) (Int.mul_le_mul hr1 hc1' (by decide) (by omega))
  have hpr2:ra*ca<=200001*200001:=Int.mul_le_mul hsr hsc (by omega) (by decide)
  have hNb:N<=50000000000:=by omega
  have HN:=zh (show wrap64 (ra*ca)=(N:Int) by rw[wr64 (by omega) (by omega)];omega)
  have HN2:=zh (show (N:Int)=ra*ca by omega)
  clear hpr hpr2 hNN
  have HS1:=zh hs1
  clear hra hca h5 h6 hBZ hE1 hs1 he1 c1 c2 c3 c4 c5 d0 d1 d2 d3 d4 d5 d6 d7 d8 d9 d10 hb hb1 hb2 hb3 HRX
  by_cases hg:1<ra/\1<ca
  ·have hr':(decide (1<ra))=true:=decide_eq_true hg.1
   have hc':(decide (1<ca))=true:=decide_eq_true hg.2
   rw[if_pos hg] at hRX
   have HRR:=zh hRX.symm
   clear hg hRX
   unfold Arg.agg at *
   go_wp2_with fail
   (refine qmI ?_;(repeat(go_big_quiet_step (first|(go_at_call 223;exact Calls.zA6 (HRW.out _))|(go_at_call 225;exact Calls.zA6 (HCL.out _)))));refine qmE ?_;intro lq nq)
   go_wp2_with(go_at_call 21;refine(zA3 _ _).mono ?_;rintro e w3 ⟨rfl,hb⟩;obtain⟨l3,q3,rfl⟩:=zA0 (zCA HBZ.out hb bel);clear hb)
   all_goals go_returns
   all_goals exact⟨by rw[HRR.out],bel⟩
  ·rw[if_neg hg] at hRX
   have HRY:=zh hRX
   clear hRX
   unfold Arg.agg at *
   go_wp2_with fail
   go_cut [37] (fun s wx=>s=.bool false/\Below wk.heap.size wk wx)
   case first =>
    by_cases hr:1<ra
    ·have hr':(decide (1<ra))=true:=decide_eq_true hr
     have hc':(decide (1<ca))=false:=decide_eq_false fun h=>hg ⟨hr,h⟩
     clear hr hg
     (refine qmI ?_;(repeat(go_big_quiet_step (first|(go_at_call 223;exact Calls.zA6 (HRW.out _))|(go_at_call 225;exact Calls.zA6 (HCL.out _)))));refine qmE ?_;intro lq nq)
     go_wp2_with fail
     go_meet
     exact⟨rfl,bel⟩
    ·have hr':(decide (1<ra))=false:=decide_eq_false hr
     clear hr hg
     (refine qmI ?_;(repeat(go_big_quiet_step (first|(go_at_call 223;exact Calls.zA6 (HRW.out _))|(go_at_call 225;exact Calls.zA6 (HCL.out _)))));refine qmE ?_;intro lq nq)
     go_wp2_with fail
     go_meet
     exact⟨rfl,bel⟩
   case rest =>
    obtain⟨rfl,hBc⟩:=hcut
    have HBC0:=zh hBc
    clear hBc g0 g1 g2 g3 g4 k0 k1 k2 k3 k4 k5 k6 k7 k8 k9 k10
    have hbcs:=HBC0.out.size
    have k0:=cell_below (H6.out 0 _ rfl) HBC0.out
    have k1:=cell_below (H6.out 1 _ rfl) HBC0.out
    have k2:=cell_below (H6.out 2 _ rfl) HBC0.out
    have k3:=cell_below (H6.out 3 _ rfl) HBC0.out
    have k4:=cell_below (H6.out 4 _ rfl) HBC0.out
    have k5:=cell_below (H6.out 5 _ rfl) HBC0.out
    have k6:=cell_below (H6.out 6 _ rfl) HBC0.out
    have k7:=cell_below (H6.out 7 _ rfl) HBC0.out
    have k8:=cell_below (H6.out 8 _ rfl) HBC0.out
    have k9:=cell_below (H6.out 9 _ rfl) HBC0.out
    have k10:=cell_below (H6.out 10 _ rfl) HBC0.out
    have l6c:=cltK k0
    go_wp2_with(go_at_call 274;refine(HH.out _ HBC0.out).mono ?_;rintro e w5 ⟨bm,rfl,hM,hbm,hb⟩;have HBL:=zh (HBC0.out.trans (hb.mono hbcs));have HM:=zh hM;clear hM hb hbm)
    clear k0 k1 k2 k3 k4 k5 k6 k7 k8 k9 k10
    have hb5:=HBL.out.size
    have l6':p6<w5.heap.size:=by omega
    have k0:=cell_below (H6.out 0 _ rfl) HBL.out
    have k1:=cell_below (H6.out 1 _ rfl) HBL.out
    have k2:=cell_below (H6.out 2 _ rfl) HBL.out
    have k3:=cell_below (H6.out 3 _ rfl) HBL.out
    have k4:=cell_below (H6.out 4 _ rfl) HBL.out
    have k5:=cell_below (H6.out 5 _ rfl) HBL.out
    have k6:=cell_below (H6.out 6 _ rfl) HBL.out
    have k7:=cell_below (H6.out 7 _ rfl) HBL.out
    have k8:=cell_below (H6.out 8 _ rfl) HBL.out
    have k9:=cell_below (H6.out 9 _ rfl) HBL.out
    have k10:=cell_below (H6.out 10 _ rfl) HBL.out
    have s1:=HN.out
    (refine qmI ?_;(repeat(go_big_quiet_step (first|(go_at_call 223;exact Calls.zA6 (HRW.out _))|(go_at_call 225;exact Calls.zA6 (HCL.out _)))));refine qmE ?_;intro lq nq)
    go_wp2_with fail
    obtain⟨WL,hWL⟩:∃ WL,WL=more w5 lq nq:=⟨_,rfl⟩
    have HWL:=zh hWL
    have HB3:=zh (show Below wk.heap.size wk WL by rw[hWL];exact HBL.out.trans (zAi hb5))
    have HM2:=zh (show zBr Tryz.prog 304 WL bm (heldP a1 es1) by rw[hWL];exact HM.out.at0 (zAi (Nat.le_refl _)))
    clear hWL s1 k0 k1 k2 k3 k4 k5 k6 k7 k8 k9 k10 l6' hb5 hbcs
    go_loopw [46] (fun t wr=>∃ i:Nat,i<=N/\t=.int .i64 i/\Below WL.heap.size WL wr/\((List.range i).find? fun i:Nat=>eqB (lookG a1 es1 ((i:Int) / ca,(i:Int) % ca)) a0.val)=none) (fun t _=>N-(intOf t).toNat)
    case atStart=>exact⟨0,Nat.zero_le _,rfl,by rw[HWL.out];exact Below.refl _ _,rfl⟩
    case round =>
     obtain⟨i,hi,rfl,hB,hno⟩:=hrel
     have hbc:Below wk.heap.size wk wr:=HB3.out.trans (hB.mono HB3.out.size)
     have l6':p6<wr.heap.size:=Nat.lt_of_lt_of_le l6 hbc.size
     have k0:=cell_below (H6.out 0 _ rfl) hbc
     have k1:=cell_below (H6.out 1 _ rfl) hbc
     have k2:=cell_below (H6.out 2 _ rfl) hbc
     have k3:=cell_below (H6.out 3 _ rfl) hbc
     have k4:=cell_below (H6.out 4 _ rfl) hbc
     have k5:=cell_below (H6.out 5 _ rfl) hbc
     have k6:=cell_below (H6.out 6 _ rfl) hbc
     have k7:=cell_below (H6.out 7 _ rfl) hbc
     have k8:=cell_below (H6.out 8 _ rfl) hbc
     have k9:=cell_below (H6.out 9 _ rfl) hbc
     have k10:=cell_below (H6.out 10 _ rfl) hbc
     have HM3:=zh (HM2.out.at0 hB)
     have HB:=zh hB
     have HBC:=zh hbc
     have HNO:=zh hno
     obtain⟨wj,hwj⟩:∃ wj,wj=wc:=⟨_,rfl⟩
     subst hwj
     clear hB hbc hno
     by_cases hlt:i<N
     ·have hlt2:(decide ((i:Int)<wrap64 (ra*ca)))=true:=decide_eq_true (by rw[HN.out];omega)
      have z1:(ca==0)=false:=by simp;omega
      have z2: ¬ ca=0:=by omega
      have HQ0:=zh (show 0<=(i:Int) / ca/\(i:Int) / ca<=i from ⟨Int.ediv_nonneg (by omega) (by omega),Int.ediv_le_self _ (by omega)⟩)
      have HQ1:=zh (show 0<=(i:Int) % ca/\(i:Int) % ca<ca from ⟨Int.emod_nonneg _ (by omega),Int.emod_lt_of_pos _ (by omega)⟩)
      have q1:Int.tdiv (i:Int) ca=(i:Int) / ca:=Int.tdiv_eq_ediv_of_nonneg (by omega)
      have q2:Int.tmod (i:Int) ca=(i:Int) % ca:=Int.tmod_eq_emod_of_nonneg (by omega)
      go_wp2_with fail
      go_cut [9] (fun s9 wx=>∃ p9:Nat,s9=.pointer (some ⟨p9,0,none⟩)/\AtB wx p9 [.int .i64 ((i:Int) / ca),.int .i64 ((i:Int) % ca)]/\Below wr.heap.size wr wx)
      case first =>
       have ne0:wr.heap.size≠p6:=by omega
       have HQ3:=zh (show IntKind.i64.wrap ((i:Int) / ca)=(i:Int) / ca by rw[IntKind.wrap_i64];have:=HQ0.out;omega)
       clear hlt2 hi hn1 hr1 hsr hNb l5 l6 HQ0 HQ1
       go_region_held3 (fun w'=>w'.cell? ⟨p6,0,none⟩=some (.bool a1.many)/\w'.cell? ⟨p6,1,none⟩=some (.int .i64 a1.val.tag)/\w'.cell? ⟨p6,2,none⟩=some (.int .i64 a1.val.num)/\w'.cell? ⟨p6,3,none⟩=some (.string a1.val.str)/\w'.cell? ⟨p6,4,none⟩=some (.bool a1.val.is)/\w'.cell? ⟨p6,5,none⟩=some (.int .i64 a1.val.code)/\w'.cell? ⟨p6,6,none⟩=some (.int .i64 a1.top)/\w'.cell? ⟨p6,7,none⟩=some (.int .i64 a1.left)/\w'.cell? ⟨p6,8,none⟩=some (.int .i64 a1.bottom)/\w'.cell? ⟨p6,9,none⟩=some (.int .i64 a1.right)/\w'.cell? ⟨p6,10,none⟩=some (.slice a1.ents a1.n a1.c)) (((try dsimp only[vG]);(repeat' apply And.intro)<;>(first|assumption|exact cell_below (w:=wr) (by assumption) bel))) (first|(go_at_call 225;refine mB (HCL.out _) ?_;intro l6 q6))
       all_goals go_wp2_with fail
       all_goals go_meet
       all_goals rw[HQ3.out]
       all_goals first|exact⟨_,rfl,AtB.new (by simp),bel⟩|exact⟨_,rfl,(AtB.new (by simp)).below (zAi (Nat.le_refl _)),bel⟩
      case rest =>
       obtain⟨p9,rfl,h9,hBr⟩:=hcut
       have x0:=h9 0 _ rfl
       have x1:=h9 1 _ rfl
       have hbk2:Below wk.heap.size wk wc:=HBC.out.trans (hBr.mono HBC.out.size)
       have HBK:=zh hbk2
       have HBR:=zh hBr
       have l9:=cltK x0
       have l5c:p5<wc.heap.size:=Nat.lt_of_lt_of_le l5 hbk2.size
       have g0:=cell_below (H5.out 0 _ rfl) hbk2
       have g1:=cell_below (H5.out 1 _ rfl) hbk2
       have g2:=cell_below (H5.out 2 _ rfl) hbk2
       have g3:=cell_below (H5.out 3 _ rfl) hbk2
       have g4:=cell_below (H5.out 4 _ rfl) hbk2
       have HOK:=zh (show Ok64 ((i:Int) / ca,(i:Int) % ca) from ⟨⟨by have:=HQ0.out;simp only;omega,by have:=HQ0.out;simp only;omega⟩,⟨by have:=HQ1.out;simp only;omega,by have:=HQ1.out;simp only;omega⟩⟩)
       obtain⟨g,hg⟩:∃ g,lookG a1 es1 ((i:Int) / ca,(i:Int) % ca)=g:=⟨_,rfl⟩
       have hL:∀ l n,(Instr.lookup 301 (.map (some bm)) (.agg #[.int .i64 ((i:Int) / ca),.int .i64 ((i:Int) % ca)]) false).run Tryz.prog (more wc l n)=.ok (vG g) (more wc l n):=fun l n=>by
        have h:=((HM3.out.at0 HBR.out).at0 (zAi (l:=l) (n:=n) (Nat.le_refl _))).look1 place_key Tryz.underlying301 (zero_V _) ((i:Int) / ca,(i:Int) % ca) HOK.out
        rw[lookG_eq,hg] at h
        exact h
       have hqx:=neqV g.tag g.num g.str g.is g.code a0.val.tag a0.val.num a0.val.str a0.val.is a0.val.code
       obtain⟨bz,hbz⟩:∃ bz,eqB g a0.val=bz:=⟨_,rfl⟩
       have HZP:=zh (show eqB (lookG a1 es1 ((i:Int) / ca,(i:Int) % ca)) a0.val=bz by rw[hg];exact hbz)
       rw[show eqB ⟨g.tag,g.num,g.str,g.is,g.code⟩ ⟨a0.val.tag,a0.val.num,a0.val.str,a0.val.is,a0.val.code⟩=bz from hbz] at hqx
       clear h9 hBr hbk2 hg hbz k0 k1 k2 k3 k4 k5 k6 k7 k8 k9 k10 l6' q1 q2 z1 z2 hlt2
       go_wp2_with fail
       (refine qmI ?_;(repeat(go_big_quiet_step (fail)));refine qmE ?_;intro lq nq)
       clear hL hqx g0 g1 g2 g3 g4
       cases bz
       ·go_wp2_with fail
        go_roundw
        case rel=>exact⟨i+1,by omega,by go_num,HB.out.trans ((HBR.out.trans (zAi HBR.out.size)).mono HB.out.size),range_find_no HNO.out HZP.out⟩
        case measure=>simp[intOf];omega
       ·have HRR:=zh (show R=numG (((i:Int)+1)*10000) from by rw[<- HRY.out,range_find_yes HNO.out hlt HZP.out])
        have w1:wrap64 ((i:Int)+1)=(i:Int)+1:=wr64 (by omega) (by omega)
        clear x0 x1 l9 l5c
        go_wp2_with(go_at_call 222;refine(aggs_whole ((i:Int)+1) (by omega) (by omega) _).mono ?_;rintro e w3 ⟨rfl,hb⟩;obtain⟨l3,q3,rfl⟩:=zA0 (zCA HBZ.out hb (HBK.out.trans (zAi HBK.out.size)));clear hb)
        all_goals go_returns
        all_goals exact⟨by rw[HRR.out],bel⟩
     ·obtain rfl:i=N:=by omega
      have hlt2:(decide ((i:Int)<wrap64 (ra*ca)))=false:=decide_eq_false (by rw[HN.out];omega)
      have HRR:=zh (show R=errG 6 from by rw[<- HRY.out,HNO.out])
      clear k0 k1 k2 k3 k4 k5 k6 k7 k8 k9 k10 l6' hlt
      go_wp2_with(go_at_call 21;refine(zA3 _ _).mono ?_;rintro e w3 ⟨rfl,hb⟩;obtain⟨l3,q3,rfl⟩:=zA0 (zCA HBZ.out hb HBC.out);clear hb)
      all_goals go_returns
      all_goals exact⟨by rw[HRR.out],bel⟩
theorem aggs_LOOKUP (a0 a1 a2:Arg) (es1 es2:List En) (b off c:Nat) (tx:Int) (w:World) (hc0:∀ i u,a0.cells[i]? =some u->w.cell? ⟨b,off+0+i,none⟩=some u) (hc1:∀ i u,a1.cells[i]? =some u->w.cell? ⟨b,off+11+i,none⟩=some u) (hc2:∀ i u,a2.cells[i]? =some u->w.cell? ⟨b,off+22+i,none⟩=some u) (hE1:zAt w a1 es1) (hE2:zAt w a2 es2) (hs1:zAQ a1) (hs2:zAQ a2) (he1:∀ e∈es1,SmallE e) (he2:∀ e∈es2,SmallE e) (hn1:a1.n<=1000000000) (hn2:a2.n<=1000000000) (hr1:1<=zBm a1) (hc1':1<=zBl a1) :
  Rt 217 #[.slice (some ⟨b,off,none⟩) 3 c,.int .i64 tx] w (vG (lookupG a1 es1 a2 es2 a0.val)):=by
 have c1:=hc0 1 _ rfl
 have c2:=hc0 2 _ rfl
 have c3:=hc0 3 _ rfl
 have c4:=hc0 4 _ rfl
 have c5:=hc0 5 _ rfl
 have d0:=hc1 0 _ rfl
 have d1:=hc1 1 _ rfl
 have d2:=hc1 2 _ rfl
 have d3:=hc1 3 _ rfl
 have d4:=hc1 4 _ rfl
 have d5:=hc1 5 _ rfl
 have d6:=hc1 6 _ rfl
 have d7:=hc1 7 _ rfl
 have d8:=hc1 8 _ rfl
 have d9:=hc1 9 _ rfl
 have d10:=hc1 10 _ rfl
 have hb:=cltK c1
 have hb1:b<w.heap.size+1:=by omega
 have hb2:b<w.heap.size+1+1:=by omega
 have hb3:b<w.heap.size+1+1+1:=by omega
 simp only[Nat.add_zero] at c1 c2 c3 c4 c5 d0
 have HC2:=zh hc2
 have HBB:=zh hb
 clear hc0 hc1 hc2
 obtain⟨R,hR⟩:∃ R,lookupG a1 es1 a2 es2 a0.val=R:=⟨_,rfl⟩
 rw[hR]
 unfold lookupG scanG at hR
 have HRX:=zh hR
 clear hR
 go_enter Tryz.func217,Tryz.ntmps217
 go_wp2_with fail
 go_cut [5,6] (fun s5 s6 wx=>∃ p5 p6:Nat,s5=.pointer (some ⟨p5,0,none⟩)/\s6=.pointer (some ⟨p6,0,none⟩)/\Below (w.alloc zObj).heap.size (w.alloc zObj) wx/\AtB wx p5 a0.val.cells/\AtB wx p6 a1.cells)
 case first =>
  go_region
  all_goals go_wp2_with fail
  all_goals go_meet
  ·exact⟨_,_,rfl,rfl,bel,(AtB.new (cs:=#[.int .i64 a0.val.tag,.int .i64 a0.val.num,.string a0.val.str,.bool a0.val.is,.int .i64 a0.val.code]) (by simp)).zAv _,AtB.new (cs:=#[.bool a1.many,.int .i64 a1.val.tag,.int .i64 a1.val.num,.string a1.val.str,.bool a1.val.is,.int .i64 a1.val.code,.int .i64 a1.top,.int .i64 a1.left,.int .i64 a1.bottom,.int .i64 a1.right,.slice a1.ents a1.n a1.c]) (by simp)⟩
  ·exact⟨_,_,rfl,rfl,bel,AtB.new (cs:=#[.int .i64 a0.val.tag,.int .i64 a0.val.num,.string a0.val.str,.bool a0.val.is,.int .i64 a0.val.code]) (by simp),(AtB.new (cs:=#[.bool a1.many,.int .i64 a1.val.tag,.int .i64 a1.val.num,.string a1.val.str,.bool a1.val.is,.int .i64 a1.val.code,.int .i64 a1.top,.int .i64 a1.left,.int .i64 a1.bottom,.int .i64 a1.right,.slice a1.ents a1.n a1.c]) (by simp)).zAv _⟩
 case rest =>
  obtain⟨p5,p6,rfl,rfl,hBZ,h5,h6⟩:=hcut
  obtain⟨wk,hwk⟩:∃ wk,wk=wc:=⟨_,rfl⟩
  subst hwk
  have g0:=h5 0 _ rfl
  have g1:=h5 1 _ rfl
  have g2:=h5 2 _ rfl
  have g3:=h5 3 _ rfl
  have g4:=h5 4 _ rfl
  have k0:=h6 0 _ rfl
  have k1:=h6 1 _ rfl
  have k2:=h6 2 _ rfl
  have k3:=h6 3 _ rfl
  have k4:=h6 4 _ rfl
  have k5:=h6 5 _ rfl
  have k6:=h6 6 _ rfl
  have k7:=h6 7 _ rfl
  have k8:=h6 8 _ rfl
  have k9:=h6 9 _ rfl
  have k10:=h6 10 _ rfl
  have l5:=cltK g0
  have l6:=cltK k0
  have HBZ:=zh hBZ
  have H5:=zh h5
  have H6:=zh h6
  have HRW:=zh (aggs_rows a1 hs1)
  have HCL:=zh (aggs_cols a1 hs1)
  have HB0:=zh (show Below w.heap.size w wk from (show Below w.heap.size w (w.alloc zObj) from bel).trans (hBZ.mono (by simp)))
  have HH:=zh (fun W (hb:Below wk.heap.size wk W)=>aggs_held a1 es1 W ((hE1.below HB0.out).below hb) hs1 he1 (by omega))
  have HH2:=zh (fun W (hb:Below wk.heap.size wk W)=>aggs_held a2 es2 W ((hE2.below HB0.out).below hb) hs2 he2 (by omega))
  have HAL:=zh (aggs_alike a1 a2 hs1 hs2)
  have HF2:=zh (fun i u hu=>cell_below (HC2.out i u hu) HB0.out)
  have f0:=HF2.out 0 _ rfl
  have f1:=HF2.out 1 _ rfl
  have f2:=HF2.out 2 _ rfl
  have f3:=HF2.out 3 _ rfl
  have f4:=HF2.out 4 _ rfl
  have f5:=HF2.out 5 _ rfl
  have f6:=HF2.out 6 _ rfl
  have f7:=HF2.out 7 _ rfl
  have f8:=HF2.out 8 _ rfl
  have f9:=HF2.out 9 _ rfl
  have f10:=HF2.out 10 _ rfl
  simp only[Nat.add_zero] at f0
  have hbk:=cltK f0
  obtain⟨al,hal⟩:∃ al,alikeG a1 a2=al:=⟨_,rfl⟩
  rw[hal] at HAL
  have hsr:zBm a1<=200001:=by unfold zBm;unfold zAQ at hs1;omega
  have hsc:zBl a1<=200001:=by unfold zBl;unfold zAQ at hs1;omega
  have hRX:=HRX.out
  rw[hal] at hRX
  obtain⟨ra,hra⟩:∃ ra,zBm a1=ra:=⟨_,rfl⟩
  obtain⟨ca,hca⟩:∃ ca,zBl a1=ca:=⟨_,rfl⟩
  rw[hra] at HRW hsr hr1
  rw[hca] at HCL hsc hc1'
  rw[hra,hca] at hRX
  obtain⟨N,hNN⟩:∃ N:Nat,(ra*ca).toNat=N:=⟨_,rfl⟩
  rw[hNN] at hRX
  have hpr:1<=ra*ca:=Int.le_trans (show (1:Int)<=1*1 by decide) (Int.mul_le_mul hr1 hc1' (by decide) (by omega))
  have hpr2:ra*ca<=200001*200001:=Int.mul_le_mul hsr hsc (by omega) (by decide)
  have hNb:N<=50000000000:=by omega
  have HN:=zh (show wrap64 (ra*ca)=(N:Int) by rw[wr64 (by omega) (by omega)];omega)
  have HN2:=zh (show (N:Int)=ra*ca by omega)
  clear hpr hpr2 hNN
  have HS1:=zh hs1
  clear hra hca h5 h6 hBZ hE1 hs1 he1 c1 c2 c3 c4 c5 d0 d1 d2 d3 d4 d5 d6 d7 d8 d9 d10 hb hb1 hb2 hb3 HRX hal hE2 hs2 he2
  by_cases hg:1<ra/\1<ca
  ·have hr':(decide (1<ra))=true:=decide_eq_true hg.1
   have hc':(decide (1<ca))=true:=decide_eq_true hg.2
   rw[if_pos hg] at hRX
   have HRR:=zh hRX.symm
   clear hg hRX
   unfold Arg.agg at *
   go_wp2_with fail
   (refine qmI ?_;(repeat(go_big_quiet_step (first|(go_at_call 223;exact Calls.zA6 (HRW.out _))|(go_at_call 225;exact Calls.zA6 (HCL.out _)))));refine qmE ?_;intro lq nq)
   go_wp2_with(go_at_call 21;refine(zA3 _ _).mono ?_;rintro e w3 ⟨rfl,hb⟩;obtain⟨l3,q3,rfl⟩:=zA0 (zCA HBZ.out hb bel);clear hb)
   all_goals go_returns
   all_goals exact⟨by rw[HRR.out],bel⟩
  ·rw[if_neg hg] at hRX
   cases al
   ·rw[if_pos rfl] at hRX
    have HRR:=zh hRX.symm
    clear hRX
    unfold Arg.agg at *
    have hend:∀ P:Prop,(1<ra->decide (1<ra)=true->decide (1<ca)=false->P)->(decide (1<ra)=false->P)->P:=fun P h1 h2=>by
     by_cases hr:1<ra
     ·exact h1 hr (decide_eq_true hr) (decide_eq_false fun h=>hg ⟨hr,h⟩)
     ·exact h2 (decide_eq_false hr)
    clear hg
    refine hend _ (fun _ hr' hc'=> ?_) (fun hr'=> ?_)
    all_goals clear hend
    all_goals go_wp2_with fail
    all_goals(refine qmI ?_;(repeat(go_big_quiet_step (first|(go_at_call 223;exact Calls.zA6 (HRW.out _))|(go_at_call 225;exact Calls.zA6 (HCL.out _))|(go_at_call 273;exact Calls.zA6 (HAL.out _)))));refine qmE ?_;intro lq nq)
    all_goals go_wp2_with(go_at_call 21;refine(zA3 _ _).mono ?_;rintro e w3 ⟨rfl,hb⟩;obtain⟨l3,q3,rfl⟩:=zA0 (zCA HBZ.out hb bel);clear hb)
    all_goals go_returns
    all_goals exact⟨by rw[HRR.out],bel⟩
   rw[if_neg (show ¬ (true=false) by decide)] at hRX
   have HRY:=zh hRX
   clear hRX
   unfold Arg.agg at *
   go_wp2_with fail
   go_cut [37] (fun s wx=>s=.bool false/\Below wk.heap.size wk wx)
   case first =>
    by_cases hr:1<ra
    ·have hr':(decide (1<ra))=true:=decide_eq_true hr
     have hc':(decide (1<ca))=false:=decide_eq_false fun h=>hg ⟨hr,h⟩
     clear hr hg
     (refine qmI ?_;(repeat(go_big_quiet_step (first|(go_at_call 223;exact Calls.zA6 (HRW.out _))|(go_at_call 225;exact Calls.zA6 (HCL.out _))|(go_at_call 273;exact Calls.zA6 (HAL.out _)))));refine qmE ?_;intro lq nq)
     go_wp2_with fail
     go_meet
     exact⟨rfl,bel⟩
    ·have hr':(decide (1<ra))=false:=decide_eq_false hr
     clear hr hg
     (refine qmI ?_;(repeat(go_big_quiet_step (first|(go_at_call 223;exact Calls.zA6 (HRW.out _))|(go_at_call 225;exact Calls.zA6 (HCL.out _))|(go_at_call 273;exact Calls.zA6 (HAL.out _)))));refine qmE ?_;intro lq nq)
     go_wp2_with fail
     go_meet
     exact⟨rfl,bel⟩
   case rest =>
    obtain⟨rfl,hBc⟩:=hcut
    have HBC0:=zh hBc
    clear hBc g0 g1 g2 g3 g4 k0 k1 k2 k3 k4 k5 k6 k7 k8 k9 k10 f0 f1 f2 f3 f4 f5 f6 f7 f8 f9 f10
    have hbcs:=HBC0.out.size
    have k0:=cell_below (H6.out 0 _ rfl) HBC0.out
    have k1:=cell_below (H6.out 1 _ rfl) HBC0.out
    have k2:=cell_below (H6.out 2 _ rfl) HBC0.out
    have k3:=cell_below (H6.out 3 _ rfl) HBC0.out
    have k4:=cell_below (H6.out 4 _ rfl) HBC0.out
    have k5:=cell_below (H6.out 5 _ rfl) HBC0.out
    have k6:=cell_below (H6.out 6 _ rfl) HBC0.out
    have k7:=cell_below (H6.out 7 _ rfl) HBC0.out
    have k8:=cell_below (H6.out 8 _ rfl) HBC0.out
    have k9:=cell_below (H6.out 9 _ rfl) HBC0.out
    have k10:=cell_below (H6.out 10 _ rfl) HBC0.out
    have l6c:=cltK k0
    go_wp2_with(go_at_call 274;refine(HH.out _ HBC0.out).mono ?_;rintro e w5 ⟨bm,rfl,hM,hbm,hb⟩;have HBL:=zh (HBC0.out.trans (hb.mono hbcs));have HM:=zh hM;clear hM hb hbm)
    clear k0 k1 k2 k3 k4 k5 k6 k7 k8 k9 k10
    have hb5:=HBL.out.size
    have l6':p6<w5.heap.size:=by omega
    have k0:=cell_below (H6.out 0 _ rfl) HBL.out
    have k1:=cell_below (H6.out 1 _ rfl) HBL.out
    have k2:=cell_below (H6.out 2 _ rfl) HBL.out
    have k3:=cell_below (H6.out 3 _ rfl) HBL.out
    have k4:=cell_below (H6.out 4 _ rfl) HBL.out
    have k5:=cell_below (H6.out 5 _ rfl) HBL.out
    have k6:=cell_below (H6.out 6 _ rfl) HBL.out
    have k7:=cell_below (H6.out 7 _ rfl) HBL.out
    have k8:=cell_below (H6.out 8 _ rfl) HBL.out
    have k9:=cell_below (H6.out 9 _ rfl) HBL.out
    have k10:=cell_below (H6.out 10 _ rfl) HBL.out
    have s1:=HN.out
    (refine qmI ?_;(repeat(go_big_quiet_step (first|(go_at_call 223;exact Calls.zA6 (HRW.out _))|(go_at_call 225;exact Calls.zA6 (HCL.out _)))));refine qmE ?_;intro lq nq)
    go_wp2_with fail
    obtain⟨WL,hWL⟩:∃ WL,WL=more w5 lq nq:=⟨_,rfl⟩
    have HWL:=zh hWL
    have HB3:=zh (show Below wk.heap.size wk WL by rw[hWL];exact HBL.out.trans (zAi hb5))
    have HM2:=zh (show zBr Tryz.prog 304 WL bm (heldP a1 es1) by rw[hWL];exact HM.out.at0 (zAi (Nat.le_refl _)))
    clear hWL s1 k0 k1 k2 k3 k4 k5 k6 k7 k8 k9 k10 l6' hb5 hbcs
    go_loopw [46] (fun t wr=>∃ i:Nat,i<=N/\t=.int .i64 i/\Below WL.heap.size WL wr/\((List.range i).find? fun i:Nat=>eqB (lookG a1 es1 ((i:Int) / ca,(i:Int) % ca)) a0.val)=none) (fun t _=>N-(intOf t).toNat)
    case atStart=>exact⟨0,Nat.zero_le _,rfl,by rw[HWL.out];exact Below.refl _ _,rfl⟩
    case round =>
     obtain⟨i,hi,rfl,hB,hno⟩:=hrel
     have hbc:Below wk.heap.size wk wr:=HB3.out.trans (hB.mono HB3.out.size)
     have l6':p6<wr.heap.size:=Nat.lt_of_lt_of_le l6 hbc.size
     have k0:=cell_below (H6.out 0 _ rfl) hbc
     have k1:=cell_below (H6.out 1 _ rfl) hbc
     have k2:=cell_below (H6.out 2 _ rfl) hbc
     have k3:=cell_below (H6.out 3 _ rfl) hbc
     have k4:=cell_below (H6.out 4 _ rfl) hbc
     have k5:=cell_below (H6.out 5 _ rfl) hbc
     have k6:=cell_below (H6.out 6 _ rfl) hbc
     have k7:=cell_below (H6.out 7 _ rfl) hbc
     have k8:=cell_below (H6.out 8 _ rfl) hbc
     have k9:=cell_below (H6.out 9 _ rfl) hbc
     have k10:=cell_below (H6.out 10 _ rfl) hbc
     have HM3:=zh (HM2.out.at0 hB)
     have HB:=zh hB
     have HBC:=zh hbc
     have HNO:=zh hno
     obtain⟨wj,hwj⟩:∃ wj,wj=wc:=⟨_,rfl⟩
     subst hwj
     clear hB hbc hno
     by_cases hlt:i<N
     ·have hlt2:(decide ((i:Int)<wrap64 (ra*ca)))=true:=decide_eq_true (by rw[HN.out];omega)
      have z1:(ca==0)=false:=by simp;omega
      have z2: ¬ ca=0:=by omega
      have HQ0:=zh (show 0<=(i:Int) / ca/\(i:Int) / ca<=i from ⟨Int.ediv_nonneg (by omega) (by omega),Int.ediv_le_self _ (by omega)⟩)
      have HQ1:=zh (show 0<=(i:Int) % ca/\(i:Int) % ca<ca from ⟨Int.emod_nonneg _ (by omega),Int.emod_lt_of_pos _ (by omega)⟩)
      have q1:Int.tdiv (i:Int) ca=(i:Int) / ca:=Int.tdiv_eq_ediv_of_nonneg (by omega)
      have q2:Int.tmod (i:Int) ca=(i:Int) % ca:=Int.tmod_eq_emod_of_nonneg (by omega)
      go_wp2_with fail
      go_cut [9] (fun s9 wx=>∃ p9:Nat,s9=.pointer (some ⟨p9,0,none⟩)/\AtB wx p9 [.int .i64 ((i:Int) / ca),.int .i64 ((i:Int) % ca)]/\Below wr.heap.size wr wx)
      case first =>
       have ne0:wr.heap.size≠p6:=by omega
       have HQ3:=zh (show IntKind.i64.wrap ((i:Int) / ca)=(i:Int) / ca by rw[IntKind.wrap_i64];have:=HQ0.out;omega)
       clear hlt2 hi hn1 hr1 hsr hNb l5 l6 HQ0 HQ1
       go_region_held3 (fun w'=>w'.cell? ⟨p6,0,none⟩=some (.bool a1.many)/\w'.cell? ⟨p6,1,none⟩=some (.int .i64 a1.val.tag)/\w'.cell? ⟨p6,2,none⟩=some (.int .i64 a1.val.num)/\w'.cell? ⟨p6,3,none⟩=some (.string a1.val.str)/\w'.cell? ⟨p6,4,none⟩=some (.bool a1.val.is)/\w'.cell? ⟨p6,5,none⟩=some (.int .i64 a1.val.code)/\w'.cell? ⟨p6,6,none⟩=some (.int .i64 a1.top)/\w'.cell? ⟨p6,7,none⟩=some (.int .i64 a1.left)/\w'.cell? ⟨p6,8,none⟩=some (.int .i64 a1.bottom)/\w'.cell? ⟨p6,9,none⟩=some (.int .i64 a1.right)/\w'.cell? ⟨p6,10,none⟩=some (.slice a1.ents a1.n a1.c)) (((try dsimp only[vG]);(repeat' apply And.intro)<;>(first|assumption|exact cell_below (w:=wr) (by assumption) bel))) (first|(go_at_call 225;refine mB (HCL.out _) ?_;intro l6 q6))
       all_goals go_wp2_with fail
       all_goals go_meet
       all_goals rw[HQ3.out]
       all_goals first|exact⟨_,rfl,AtB.new (by simp),bel⟩|exact⟨_,rfl,(AtB.new (by simp)).below (zAi (Nat.le_refl _)),bel⟩
      case rest =>
       obtain⟨p9,rfl,h9,hBr⟩:=hcut
       have x0:=h9 0 _ rfl
       have x1:=h9 1 _ rfl
       have hbk2:Below wk.heap.size wk wc:=HBC.out.trans (hBr.mono HBC.out.size)
       have HBK:=zh hbk2
       have HBR:=zh hBr
       have l9:=cltK x0
       have l5c:p5<wc.heap.size:=Nat.lt_of_lt_of_le l5 hbk2.size
       have g0:=cell_below (H5.out 0 _ rfl) hbk2
       have g1:=cell_below (H5.out 1 _ rfl) hbk2
       have g2:=cell_below (H5.out 2 _ rfl) hbk2
       have g3:=cell_below (H5.out 3 _ rfl) hbk2
       have g4:=cell_below (H5.out 4 _ rfl) hbk2
       have HOK:=zh (show Ok64 ((i:Int) / ca,(i:Int) % ca) from ⟨⟨by have:=HQ0.out;simp only;omega,by have:=HQ0.out;simp only;omega⟩,⟨by have:=HQ1.out;simp only;omega,by have:=HQ1.out;simp only;omega⟩⟩)
       obtain⟨g,hg⟩:∃ g,lookG a1 es1 ((i:Int) / ca,(i:Int) % ca)=g:=⟨_,rfl⟩
       have hL:∀ l n,(Instr.lookup 301 (.map (some bm)) (.agg #[.int .i64 ((i:Int) / ca),.int .i64 ((i:Int) % ca)]) false).run Tryz.prog (more wc l n)=.ok (vG g) (more wc l n):=fun l n=>by
        have h:=((HM3.out.at0 HBR.out).at0 (zAi (l:=l) (n:=n) (Nat.le_refl _))).look1 place_key Tryz.underlying301 (zero_V _) ((i:Int) / ca,(i:Int) % ca) HOK.out
        rw[lookG_eq,hg] at h
        exact h
       have hqx:=neqV g.tag g.num g.str g.is g.code a0.val.tag a0.val.num a0.val.str a0.val.is a0.val.code
       obtain⟨bz,hbz⟩:∃ bz,eqB g a0.val=bz:=⟨_,rfl⟩
       have HZP:=zh (show eqB (lookG a1 es1 ((i:Int) / ca,(i:Int) % ca)) a0.val=bz by rw[hg];exact hbz)
       rw[show eqB ⟨g.tag,g.num,g.str,g.is,g.code⟩ ⟨a0.val.tag,a0.val.num,a0.val.str,a0.val.is,a0.val.code⟩=bz from hbz] at hqx
       clear h9 hBr hbk2 hg hbz k0 k1 k2 k3 k4 k5 k6 k7 k8 k9 k10 l6' q1 q2 z1 z2 hlt2
       go_wp2_with fail
       (refine qmI ?_;(repeat(go_big_quiet_step (fail)));refine qmE ?_;intro lq nq)
       clear hL hqx g0 g1 g2 g3 g4
       cases bz
       ·go_wp2_with fail
        go_roundw
        case rel=>exact⟨i+1,by omega,by go_num,HB.out.trans ((HBR.out.trans (zAi HBR.out.size)).mono HB.out.size),range_find_no HNO.out HZP.out⟩
        case measure=>simp[intOf];omega
       ·have HRR:=zh (show R=lookG a2 es2 ((i:Int) / ca,(i:Int) % ca) from by rw[<- HRY.out,range_find_yes HNO.out hlt HZP.out])
        obtain⟨g2,hg2⟩:∃ g2,lookG a2 es2 ((i:Int) / ca,(i:Int) % ca)=g2:=⟨_,rfl⟩
        rw[hg2] at HRR
        have HG2:=zh hg2
        obtain⟨W9,hW9⟩:∃ W9,W9=more wc lq nq:=⟨_,rfl⟩
        rw[<- hW9]
        have hb9:Below wk.heap.size wk W9:=by rw[hW9];exact HBK.out.trans (zAi HBK.out.size)
        have x0:=(show W9.cell? ⟨p9,0,none⟩=some (.int .i64 ((i:Int) / ca)) by rw[hW9];exact(zCC l9).trans x0)
        have x1:=(show W9.cell? ⟨p9,1,none⟩=some (.int .i64 ((i:Int) % ca)) by rw[hW9];exact(zCC l9).trans x1)
        have l9:=cltK x0
        have HF9:=zh (fun i u hu=>cell_below (HF2.out i u hu) hb9)
        have f0:=HF9.out 0 _ rfl
        have f1:=HF9.out 1 _ rfl
        have f2:=HF9.out 2 _ rfl
        have f3:=HF9.out 3 _ rfl
        have f4:=HF9.out 4 _ rfl
        have f5:=HF9.out 5 _ rfl
        have f6:=HF9.out 6 _ rfl
        have f7:=HF9.out 7 _ rfl
        have f8:=HF9.out 8 _ rfl
        have f9:=HF9.out 9 _ rfl
        have f10:=HF9.out 10 _ rfl
        simp only[Nat.add_zero] at f0
        have hbk9:=cltK f0
        have HB9:=zh hb9
        have X0:=zh x0
        have X1:=zh x1
        clear hg2 hW9 hb9 l5c
        go_wp2_with fail
        go_region_with (first|(go_at_call 274;refine(HH2.out _ (by have h9:=HB9.out;repeat(first|exact h9|refine Below.drew ?_|refine below_drewN ?_ _))).mono ?_;rintro e w6 ⟨bm2,rfl,hM,hbm,hb⟩;have y0:=cell_below (w:=W9.drew) X0.out hb;have y1:=cell_below (w:=W9.drew) X1.out hb;have hM2:=hM;obtain⟨l6,q6,hwe⟩:=zA0 (zCA HBZ.out hb (by have h9:=HB9.out;repeat(first|exact h9|refine Below.drew ?_|refine below_drewN ?_ _)));subst hwe;have hL2:(Instr.lookup 301 (.map (some bm2)) (.agg #[.int .i64 ((i:Int) / ca),.int .i64 ((i:Int) % ca)]) false).run Tryz.prog (more (w.alloc zObj) l6 q6)=.ok (vG g2) (more (w.alloc zObj) l6 q6):=(by have h:=hM2.look1 place_key Tryz.underlying301 (zero_V _) ((i:Int) / ca,(i:Int) % ca) HOK.out;rw[lookG_eq,HG2.out] at h;exact h);clear hM hM2 hbm hb))
        all_goals go_wp2_with fail
        all_goals go_returns
        all_goals exact⟨by rw[HRR.out],bel⟩
     ·obtain rfl:i=N:=by omega
      have hlt2:(decide ((i:Int)<wrap64 (ra*ca)))=false:=decide_eq_false (by rw[HN.out];omega)
      have HRR:=zh (show R=errG 6 from by rw[<- HRY.out,HNO.out])
      clear k0 k1 k2 k3 k4 k5 k6 k7 k8 k9 k10 l6' hlt
      go_wp2_with(go_at_call 21;refine(zA3 _ _).mono ?_;rintro e w3 ⟨rfl,hb⟩;obtain⟨l3,q3,rfl⟩:=zA0 (zCA HBZ.out hb HBC.out);clear hb)
      all_goals go_returns
      all_goals exact⟨by rw[HRR.out],bel⟩
end Go.Proofs.YtppghgnhlgoagaaGreatDoor
