/- Parts. -/
import Derived.Test.YtnccknhbplaieaaGreatDoorC29
set_option linter.all false
set_option maxRecDepth 100000
set_option maxHeartbeats 4000000
namespace Go.Proofs.YtnccknhbplaieaaGreatDoor
open Go Go.RowKit Go.Proofs.Tryz
open Go.Lib renaming hid->zh
open Go.World renaming block_lt_of_cell?->Q3
open _root_.Nat renaming lt_of_lt_of_le->Q4
def sumifL (a0:Arg) (es0:List En) (v:V) (a2:Arg) (es2:List En):List V:=(es2.filter fun e=>eqB (lookG a0 es0 (plE a2 e)) v).map En.v
def sumifG (a0:Arg) (es0:List En) (v:V) (a2:Arg) (es2:List En):V :=
 if alikeG a0 a2=false then errG 8
 else if (zA9 (sumifL a0 es0 v a2 es2)).2.tag=4 then (zA9 (sumifL a0 es0 v a2 es2)).2
 else fitG (zA9 (sumifL a0 es0 v a2 es2)).1.sum
theorem sumifL_snoc {a0:Arg} {es0:List En} {v:V} {a2:Arg} {es2:List En} {j:Nat} {x:En} (h:es2[j]? =some x) :
  sumifL a0 es0 v a2 (es2.take (j+1))=sumifL a0 es0 v a2 (es2.take j)++(if eqB (lookG a0 es0 (plE a2 x)) v then [x.v] else []):=by
 rw[zAJ h];unfold sumifL;rw[List.filter_append,List.map_append];cases hv:eqB (lookG a0 es0 (plE a2 x)) v<;>simp[hv]
theorem sumifL_le (a0:Arg) (es0:List En) (v:V) (a2:Arg) (es2:List En):(sumifL a0 es0 v a2 es2).length<=es2.length:=by
 unfold sumifL;rw[List.length_map];exact List.length_filter_le _ _
theorem among_64 {vs:List V} (h:∀ v∈vs,Is64 v.num):∀ x∈(zA9 vs).1,Is64 x:=by
 intro x hx;unfold zA9 at hx;split at hx
 ·simp at hx
 ·simp only[numsOf,List.mem_map,List.mem_filter] at hx;obtain⟨v,⟨hv,_⟩,rfl⟩:=hx;exact h v hv
theorem among_len (vs:List V):(zA9 vs).1.length<=vs.length:=by
 unfold zA9;split
 ·simp
 ·exact zBl vs
theorem aggs_SUMIF (a0 a1 a2:Arg) (es0 es2:List En) (b off c:Nat) (tx:Int) (w:World) (hc0:∀ i u,a0.cells[i]? =some u->w.cell? ⟨b,off+0+i,none⟩=some u) (hc1:∀ i u,a1.cells[i]? =some u->w.cell? ⟨b,off+11+i,none⟩=some u) (hc2:∀ i u,a2.cells[i]? =some u->w.cell? ⟨b,off+22+i,none⟩=some u) (hE0:zAW w a0 es0) (hE2:zAW w a2 es2) (hs0:zA4 a0) (hs2:zA4 a2) (he0:∀ e∈es0,SmallE e) (he2:∀ e∈es2,SmallE e) (hn0:a0.n<=1000000000) (hn2:a2.n<=1000000000) (h64:∀ e∈es2,Is64 e.v.num) :
  Rt 245 #[.slice (some ⟨b,off,none⟩) 3 c,.int .i64 tx] w (vG (sumifG a0 es0 a1.val a2 es2)):=by
 obtain⟨c0,c1,c2,c3,c4,c5,c6,c7,c8,c9,c10⟩:=tkB hc0;obtain⟨d1,d2,d3,d4,d5⟩:=tkV hc1;obtain⟨f0,f1,f2,f3,f4,f5,f6,f7,f8,f9,f10⟩:=tkB hc2;have hb:=cltK c0;have Hh:b<w.heap.size+1:=by omega
 have Hi:b<w.heap.size+1+1:=by omega
 have Hj:b<w.heap.size+1+1+1:=by omega
 have Hk:b<w.heap.size+1+1+1+1:=by omega
 simp only[Nat.add_zero] at c0 c1 c2 c3 c4 c5 c6 c7 c8 c9 c10 f0;clear hc0 hc1 hc2;obtain⟨R,hR⟩:=lt_ (sumifG a0 es0 a1.val a2 es2);rw[hR];unfold sumifG at hR;have hI:=zh hR;clear hR;go_enter func245,ntmps245;go_wp2_with fail
 go_cut [5,6,7] (fun s5 s6 s7 wx=>∃ p5 p6 p7:Nat,s5=.pointer (some ⟨p5,0,none⟩)/\s6=.pointer (some ⟨p6,0,none⟩)/\s7=.pointer (some ⟨p7,0,none⟩)/\Below (w.alloc zObj).heap.size (w.alloc zObj) wx/\AtB wx p5 a0.cells/\AtB wx p6 a1.val.cells/\AtB wx p7 a2.cells)
 case first =>
  go_region
  all_goals go_wp2_with fail;all_goals go_meet;all_goals exact⟨_,_,_,rfl,rfl,rfl,bel,by (first|exact AtB.new (by simp)|exact(AtB.new (by simp)).allocI _|exact((AtB.new (by simp)).allocI _).allocI _),by (first|exact AtB.new (by simp)|exact(AtB.new (by simp)).allocI _|exact((AtB.new (by simp)).allocI _).allocI _),by (first|exact AtB.new (by simp)|exact(AtB.new (by simp)).allocI _|exact((AtB.new (by simp)).allocI _).allocI _)⟩
 case rest =>
  obtain⟨p5,p6,p7,rfl,rfl,rfl,hC,h5,h6,h7⟩:=hcut;obtain⟨k0,k1,k2,k3,k4,k5,k6,k7,k8,k9,k10⟩:=tkB h5;obtain⟨u0,u1,u2,u3,u4,u5,u6,u7,u8,u9,u10⟩:=tkB h7;have l5:=cltK k0;have l7:=cltK u0;have l6:p6<wc.heap.size:=Q3 wc _ (h6 0 _ rfl);have hy:=zh hC;have H6:=zh h6;have H7:=zh h7;have ht:=zh (aggs_alike a0 a2 hs0 hs2);have ho:=zh (show Below w.heap.size w wc from (show Below w.heap.size w (w.alloc zObj) from bel).trans (hC.mono (by simp)));have HH:=zh (fun W (hb:Below wc.heap.size wc W)=>aggs_held a0 es0 W ((hE0.below ho.out).below hb) hs0 he0 (by omega));have hH:=zh (show Reads w w.heap.size 7 a2.ents a2.n (flatC En.cells es2) from hE2.2);have hF:es2.length=a2.n:=hE2.1;have He:=zh hs2;have hZ:=zh he2;have hX:=zh h64;have ha:=hI.out;obtain⟨al,hP⟩:=lt_ (alikeG a0 a2);rw[hP] at ht ha;clear hP h5 h6 h7 hC hE0 hE2 hs0 he0 hs2 he2 h64 hI c0 c1 c2 c3 c4 c5 c6 c7 c8 c9 c10 d1 d2 d3 d4 d5 f0 f1 f2 f3 f4 f5 f6 f7 f8 f9 f10 hb Hh Hi Hj Hk;cases al
  ·rw[if_pos rfl] at ha;have hp:=zh ha.symm;clear ha;unfold Arg.agg at *;go_wp2_with(first|(go_at_call 308;refine mB (ht.out _) ?_;intro l4 q4)|(go_at_call 13;refine(zA3 _ _).mono ?_;rintro e w3 ⟨rfl,hb⟩;obtain⟨l3,q3,rfl⟩:=zA0 (bel_chain hy.out hb bel);clear hb))
   all_goals(go_returns;exact⟨by rw[hp.out],bel⟩)
  ·rw[if_neg (by simp)] at ha;have hJ:=zh ha;clear ha;obtain⟨iV,Hn,Hr,Hs,Ht⟩:=info_parts info_V;obtain⟨v,hv⟩:=lt_ a1.val;rw[hv] at H6 hJ;clear hv;unfold Arg.agg at *;go_wp2_with(first|(go_at_call 308;refine mB (ht.out _) ?_;intro l4 q4)|(go_at_call 309;refine(HH.out _ bel).mono ?_;rintro e w5 ⟨bm,rfl,hM,Hl,hb⟩;have hm:=zh ((show Below wc.heap.size wc _ from bel).trans (hb.mono (show Below wc.heap.size wc _ from bel).size));have HM:=zh hM;have u10:=cell_below (H7.out 10 _ rfl) hm.out;have l7':p7<w5.heap.size:=Q3 w5 _ u10;clear hM hb Hl k0 k1 k2 k3 k4 k5 k6 k7 k8 k9 k10))
   obtain⟨n,hn⟩:=lt_ a2.n;obtain⟨Ae,hA⟩:=lt_ a2.ents;obtain⟨ce,hU⟩:=lt_ a2.c;rw[hn] at hF hn2 ⊢;rw[hn,hA] at hH;rw[hA,hU];clear u10 l7' hn hA hU
   go_loopw [34,9] (fun t s wr=>∃ j:Nat,∃ z:List V,j<=n/\t=.int .i64 j/\z=sumifL a0 es0 v a2 (es2.take j)/\zAA w5 wr 29 5 s z.length (flat z)) (fun t _ _=>n-(intOf t).toNat)
   case atStart=>exact⟨0,[],Nat.zero_le _,rfl,rfl,Below.refl _ _,World.ownsRow_nil _ _ _ _⟩
   case round =>
    obtain⟨j,z,hj,rfl,hz,hG⟩:=hrel;have hT:Below w.heap.size w wr:=(ho.out.trans (hm.out.mono ho.out.size)).trans (hG.1.mono (Nat.le_trans ho.out.size hm.out.size));have hQ:Below wc.heap.size wc wr:=hm.out.trans (hG.1.mono hm.out.size);have Hq:=hG.1.size;have hzl:z.length<=j:=by rw[hz];exact Nat.le_trans (sumifL_le _ _ _ _ _) (by rw[List.length_take];omega)
    have hY:=zh hT;have hw:=zh hQ;have HG:=zh hG;have HZ:=zh hz;clear hT hQ hG hz;by_cases hlt:j<n
    ·obtain⟨x,hx⟩:∃ x,es2[j]? =some x:=⟨_,List.getElem?_eq_getElem (show j<es2.length by omega)⟩
     obtain⟨bk,off,rfl,_,hc⟩:=hH.out.2 (by omega);have hi:∀ i u,x.cells[i]? =some u->wr.cell? ⟨bk,off+(j*7+i),none⟩=some u:=fun i u hu=>by
      have h1:=hc _ u (flatC_at En.cells 7 (fun _=>rfl) es2 j x hx i u hu);exact(hY.out.cell (p:=⟨bk,_,none⟩) (Q3 w _ h1)).trans h1
     obtain⟨e0,e1,e2,e3,e4,e5,e6⟩:=tk7 hi;simp only[<- Nat.add_assoc,Nat.add_zero] at e0 e1 e2 e3 e4 e5 e6;have Hm:=cltK e0;have hW:=hZ.out x (List.mem_of_getElem? hx);have hV:=He.out;unfold SmallE at hW;unfold zA4 at hV;obtain⟨g,hg⟩:=lt_ (lookG a0 es0 (plE a2 x));have hs:=sumifL_snoc (a0:=a0) (es0:=es0) (v:=v) (a2:=a2) hx;rw[hg] at hs;have Ho:=eqlV g.tag g.num g.str g.is g.code v.tag v.num v.str v.is v.code;obtain⟨bz,hE⟩:=lt_ (eqB g v);rw[hE,<-HZ.out] at hs;rw[show eqB ⟨g.tag,g.num,g.str,g.is,g.code⟩ ⟨v.tag,v.num,v.str,v.is,v.code⟩=bz from hE] at Ho;have hK:=zh hs;have Hb:=zh hg;have s1:wrap64 (x.row-a2.top)=x.row-a2.top:=wr64 (by omega) (by omega);have s2:wrap64 (x.col-a2.left)=x.col-a2.left:=wr64 (by omega) (by omega);have Hd:=zh (show Ok64 (plE a2 x) from ⟨⟨by unfold plE;simp only;omega,by unfold plE;simp only;omega⟩,⟨by unfold plE;simp only;omega,by unfold plE;simp only;omega⟩⟩);have S1:=zh s1;have S2:=zh s2;clear hi hc hx hW hV hs hE hg s1 s2;go_wp2_with fail;obtain⟨W9,hh⟩:∃ W9,W9=wr.alloc (eObj x):=⟨_,rfl⟩
     rw[<- hh];have hD:Below wr.heap.size wr W9:=by rw[hh];exact bel
     have hd:Below wc.heap.size wc W9:=hw.out.trans (hD.mono hw.out.size);have z9:wr.heap.size<W9.heap.size:=by rw[hh];simp
     have z7:p7<W9.heap.size:=Q4 l7 hd.size;have z6:p6<W9.heap.size:=Q4 l6 hd.size;have s1:=S1.out;have s2:=S2.out;have q0:W9.cell? ⟨wr.heap.size,0,none⟩=some (.int .i64 x.row):=by rw[hh];go_simp
     have q1:W9.cell? ⟨wr.heap.size,1,none⟩=some (.int .i64 x.col):=by rw[hh];go_simp
     have f6:=cell_below (H7.out 6 _ rfl) hd;have f7:=cell_below (H7.out 7 _ rfl) hd;have v0:=cell_below (H6.out 0 _ rfl) hd;have v1:=cell_below (H6.out 1 _ rfl) hd;have v2:=cell_below (H6.out 2 _ rfl) hd;have v3:=cell_below (H6.out 3 _ rfl) hd;have v4:=cell_below (H6.out 4 _ rfl) hd;have hL:∀ l n,(Instr.lookup 270 (.map (some bm)) (.agg #[.int .i64 (x.row-a2.top),.int .i64 (x.col-a2.left)]) false).run prog (more W9 l n)=.ok (vG g) (more W9 l n):=fun l n=>by
      have h:=((HM.out.at0 (HG.out.1.trans (hD.mono Hq))).at0 (zAf (l:=l) (n:=n) (Nat.le_refl _))).look1 place_key underlying270 (zero_V _) (plE a2 x) Hd.out;rw[lookG_eq,Hb.out] at h;exact h
     have hN:=zh hh;clear hh hD hd e0 e1 e2 e3 e4 e5 e6 Hm
     (refine qmI ?_;(repeat(go_big_quiet_step (fail)));refine qmE ?_;intro lq nq)
     have hh:=hN.out;subst hh;clear hL z9 z7 z6 q0 q1 f6 f7 v0 v1 v2 v3 v4 hN;cases bz
     ·go_wp2;go_roundw;case rel=>exact⟨j+1,_,by omega,by go_num,by rw[hK.out];simp,HG.out.1.trans ((show Below wr.heap.size wr _ from bel).mono HG.out.1.size),own_below HG.out.2 bel⟩
      case measure=>simp[intOf];omega
     ·go_wp2_with(at_builtin;refine wpList_append_own _ rfl _ _ 106 rfl w5.heap.size 29 iV _ 5 48 underlying106 Hn Hr Hs Ht rfl (by decide) _ _ _ rfl (own_below HG.out.2 bel) _ 1 1 x.v.cells rfl rfl ?_ ?_ ?_ ?_ ?_ ?_)
      ·first|exact fun i u hu=>zAO (by simp) i u hu|exact fun i u hu=>hu
      ·exact cells_one _
      ·simp only[maxLen];omega
      ·omega
      ·have h1:=HG.out.1.size;simp at h1 ⊢;omega
      ·intro v' w3 hl hk _;have R:=zAA.step HG.out bel (show w3.ownsRow w5.heap.size 29 5 v' (z.length+1) (flat (z)++x.v.cells) from by simpa using hl) hk;rw[show flat (z)++x.v.cells=flat (z++[x.v]) by rw[zBr];simp[flat],show z.length+1=(z++[x.v]).length by simp] at R;have Ha:=zh R;clear hl hk R HG;go_wp2;go_roundw;case rel=>exact⟨j+1,_,by omega,by go_num,by rw[hK.out];simp,Ha.out⟩
       case measure=>simp[intOf];omega
    obtain rfl:j=n:=by omega
    have hz:=HZ.out;rw[List.take_of_length_le (by omega)] at hz;have hO:=HG.out.2;have hB:Below (w.alloc zObj).heap.size (w.alloc zObj) wr:=hy.out.trans (hw.out.mono hy.out.size);have Hf:=zh (show ∀ x∈z,Is64 x.num by
     intro x hx;rw[hz] at hx;unfold sumifL at hx;simp only[List.mem_map,List.mem_filter] at hx;obtain⟨e,⟨he,_⟩,rfl⟩:=hx;exact hX.out e he)
    have HA:=zh (fun A' c' B' W (h:Reads W B' 5 A' z.length (flat z))=>aggs_among z A' z.length c' B' W h (by omega));have HS:=zh (fun A' c' B' W (h:Reads W B' 1 A' (zA9 z).1.length (I (zA9 z).1))=>aggs_sum (zA9 z).1 A' (zA9 z).1.length c' B' W h (by have:=among_len z;omega) (among_64 Hf.out));have ha:=hJ.out;rw[<- hz] at ha;obtain⟨ls,hq⟩:=lt_ ((zA9 z).1);obtain⟨f,hf⟩:=lt_ ((zA9 z).2);rw[hq,hf] at ha;rw[hq] at HS;simp only[hq,hf] at HA;obtain⟨l0,q0,Hp⟩:=zA0 hB;subst Hp;obtain⟨Ai,ci,rfl⟩:=zAB hO;have HO:=zh (Reads.zAC hO);clear hO hB hz hq hf HG HZ;by_cases h4:f.tag=4
    have Hg:(f.tag==4)=true:=by simp[h4]
    rw[if_pos h4] at ha;have hp:=zh ha.symm;clear h4 ha
    rotate_left
    have Hg:(f.tag==4)=false:=by simp[h4]
    rw[if_neg h4] at ha;obtain⟨S,hS⟩:=lt_ ls.sum;rw[hS] at ha;simp only[hS] at HS;have hp:=zh ha.symm;clear h4 ha hS;all_goals
     go_wp2_with(first|(go_at_call 298;refine(HA.out _ _ _ _ HO.out).mono ?_;rintro e w2 ⟨s,rfl,hr,hb⟩;obtain⟨Aj,cj,rfl⟩:=zAB hr;obtain⟨l2,q2,rfl⟩:=zA0 hb;clear hb;simp only[zAQ,List.append_assoc] at hr;have Hc:=zh hr;clear hr)|(go_at_call 232;refine mB (HS.out _ _ _ _ (Reads.zAC (own_below Hc.out bel))) ?_;intro l3 q3)|(go_at_call 231;refine mB (aggs_fit S _) ?_;intro l4 q4))
     all_goals(go_returns;exact⟨by rw[hp.out],bel⟩)
end Go.Proofs.YtnccknhbplaieaaGreatDoor
