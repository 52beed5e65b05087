/- Parts. -/
import Derived.Test.YtppghgnhlgoagaaGreatDoorG31
set_option linter.all false
set_option maxRecDepth 100000
set_option maxHeartbeats 4000000
namespace Go.Proofs.YtppghgnhlgoagaaGreatDoor
open Go Go.RowKit
open Go.Lib renaming hid->zh
def sumifL (a0:Arg) (es0:List En) (v:V) (a2:Arg) (es2:List En):List V:=(es2.filter fun e=>eqB (lookG a0 es0 (plE a2 e)) v).map En.v
def sumifG (a0:Arg) (es0:List En) (v:V) (a2:Arg) (es2:List En):V :=
 if alikeG a0 a2=false then errG 8
 else if (zAA (sumifL a0 es0 v a2 es2)).2.tag=4 then (zAA (sumifL a0 es0 v a2 es2)).2
 else fitG (zAA (sumifL a0 es0 v a2 es2)).1.sum
theorem sumifL_snoc {a0:Arg} {es0:List En} {v:V} {a2:Arg} {es2:List En} {j:Nat} {x:En} (h:es2[j]? =some x) :
  sumifL a0 es0 v a2 (es2.take (j+1))=sumifL a0 es0 v a2 (es2.take j)++(if eqB (lookG a0 es0 (plE a2 x)) v then [x.v] else []):=by
 rw[zAn h]
 unfold sumifL
 rw[List.filter_append,List.map_append]
 cases hv:eqB (lookG a0 es0 (plE a2 x)) v<;>simp[hv]
theorem sumifL_le (a0:Arg) (es0:List En) (v:V) (a2:Arg) (es2:List En):(sumifL a0 es0 v a2 es2).length<=es2.length:=by
 unfold sumifL
 rw[List.length_map]
 exact List.length_filter_le _ _
theorem among_64 {vs:List V} (h:∀ v∈vs,Is64 v.num):∀ x∈(zAA vs).1,Is64 x:=by
 intro x hx
 unfold zAA at hx
 split at hx
 ·simp at hx
 ·simp only[numsOf,List.mem_map,List.mem_filter] at hx
  obtain⟨v,⟨hv,_⟩,rfl⟩:=hx
  exact h v hv
theorem among_len (vs:List V):(zAA vs).1.length<=vs.length:=by
 unfold zAA
 split
 ·simp
 ·exact numsOf_le vs
theorem aggs_SUMIF (a0 a1 a2:Arg) (es0 es2:List En) (b off c:Nat) (tx:Int) (w:World) (hc0:∀ i u,a0.cells[i]? =some u->w.cell? ⟨b,off+0+i,none⟩=some u) (hc1:∀ i u,a1.cells[i]? =some u->w.cell? ⟨b,off+11+i,none⟩=some u) (hc2:∀ i u,a2.cells[i]? =some u->w.cell? ⟨b,off+22+i,none⟩=some u) (hE0:zAt w a0 es0) (hE2:zAt w a2 es2) (hs0:zAQ a0) (hs2:zAQ a2) (he0:∀ e∈es0,SmallE e) (he2:∀ e∈es2,SmallE e) (hn0:a0.n<=1000000000) (hn2:a2.n<=1000000000) (h64:∀ e∈es2,Is64 e.v.num) :
  Rt 216 #[.slice (some ⟨b,off,none⟩) 3 c,.int .i64 tx] w (vG (sumifG a0 es0 a1.val a2 es2)):=by
 have c0:=hc0 0 _ rfl
 have c1:=hc0 1 _ rfl
 have c2:=hc0 2 _ rfl
 have c3:=hc0 3 _ rfl
 have c4:=hc0 4 _ rfl
 have c5:=hc0 5 _ rfl
 have c6:=hc0 6 _ rfl
 have c7:=hc0 7 _ rfl
 have c8:=hc0 8 _ rfl
 have c9:=hc0 9 _ rfl
 have c10:=hc0 10 _ rfl
 have d1:=hc1 1 _ rfl
 have d2:=hc1 2 _ rfl
 have d3:=hc1 3 _ rfl
 have d4:=hc1 4 _ rfl
 have d5:=hc1 5 _ rfl
 have f0:=hc2 0 _ rfl
 have f1:=hc2 1 _ rfl
 have f2:=hc2 2 _ rfl
 have f3:=hc2 3 _ rfl
 have f4:=hc2 4 _ rfl
 have f5:=hc2 5 _ rfl
 have f6:=hc2 6 _ rfl
 have f7:=hc2 7 _ rfl
 have f8:=hc2 8 _ rfl
 have f9:=hc2 9 _ rfl
 have f10:=hc2 10 _ rfl
 have hb:=cltK c0
 have hb1:b<w.heap.size+1:=by omega
 have hb2:b<w.heap.size+1+1:=by omega
 have hb3:b<w.heap.size+1+1+1:=by omega
 have hb4:b<w.heap.size+1+1+1+1:=by omega
 simp only[Nat.add_zero] at c0 c1 c2 c3 c4 c5 c6 c7 c8 c9 c10 f0
 clear hc0 hc1 hc2
 obtain⟨R,hR⟩:∃ R,sumifG a0 es0 a1.val a2 es2=R:=⟨_,rfl⟩
 rw[hR]
 unfold sumifG at hR
 have HRX:=zh hR
 clear hR
 go_enter Tryz.func216,Tryz.ntmps216
 go_wp2_with fail
 go_cut [5,6,7] (fun s5 s6 s7 wx=>∃ p5 p6 p7:Nat,s5=.pointer (some ⟨p5,0,none⟩)/\s6=.pointer (some ⟨p6,0,none⟩)/\s7=.pointer (some ⟨p7,0,none⟩)/\Below (w.alloc zObj).heap.size (w.alloc zObj) wx/\AtB wx p5 a0.cells/\AtB wx p6 a1.val.cells/\AtB wx p7 a2.cells)
 case first =>
  go_region
  all_goals go_wp2_with fail
  all_goals go_meet
  all_goals exact⟨_,_,_,rfl,rfl,rfl,bel,by (first|exact AtB.new (by simp)|exact(AtB.new (by simp)).zAv _|exact((AtB.new (by simp)).zAv _).zAv _),by (first|exact AtB.new (by simp)|exact(AtB.new (by simp)).zAv _|exact((AtB.new (by simp)).zAv _).zAv _),by (first|exact AtB.new (by simp)|exact(AtB.new (by simp)).zAv _|exact((AtB.new (by simp)).zAv _).zAv _)⟩
 case rest =>
  obtain⟨p5,p6,p7,rfl,rfl,rfl,hBZ,h5,h6,h7⟩:=hcut
  have k0:=h5 0 _ rfl
  have k1:=h5 1 _ rfl
  have k2:=h5 2 _ rfl
  have k3:=h5 3 _ rfl
  have k4:=h5 4 _ rfl
  have k5:=h5 5 _ rfl
  have k6:=h5 6 _ rfl
  have k7:=h5 7 _ rfl
  have k8:=h5 8 _ rfl
  have k9:=h5 9 _ rfl
  have k10:=h5 10 _ rfl
  have u0:=h7 0 _ rfl
  have u1:=h7 1 _ rfl
  have u2:=h7 2 _ rfl
  have u3:=h7 3 _ rfl
  have u4:=h7 4 _ rfl
  have u5:=h7 5 _ rfl
  have u6:=h7 6 _ rfl
  have u7:=h7 7 _ rfl
  have u8:=h7 8 _ rfl
  have u9:=h7 9 _ rfl
  have u10:=h7 10 _ rfl
  have l5:=cltK k0
  have l7:=cltK u0
  have l6:p6<wc.heap.size:=World.block_lt_of_cell? wc _ (h6 0 _ rfl)
  have HBZ:=zh hBZ
  have H6:=zh h6
  have H7:=zh h7
  have HAL:=zh (aggs_alike a0 a2 hs0 hs2)
  have HB0:=zh (show Below w.heap.size w wc from (show Below w.heap.size w (w.alloc zObj) from bel).trans (hBZ.mono (by simp)))
  have HH:=zh (fun W (hb:Below wc.heap.size wc W)=>aggs_held a0 es0 W ((hE0.below HB0.out).below hb) hs0 he0 (by omega))
  have HE2:=zh (show Reads w w.heap.size 7 a2.ents a2.n (zBi En.cells es2) from hE2.2)
  have hel2:es2.length=a2.n:=hE2.1
  have HS2:=zh hs2
  have HES:=zh he2
  have H64:=zh h64
  have hRX:=HRX.out
  obtain⟨al,hal⟩:∃ al,alikeG a0 a2=al:=⟨_,rfl⟩
  rw[hal] at HAL hRX
  clear hal h5 h6 h7 hBZ hE0 hE2 hs0 he0 hs2 he2 h64 HRX c0 c1 c2 c3 c4 c5 c6 c7 c8 c9 c10 d1 d2 d3 d4 d5 f0 f1 f2 f3 f4 f5 f6 f7 f8 f9 f10 hb hb1 hb2 hb3 hb4
  cases al
  ·rw[if_pos rfl] at hRX
   have HRR:=zh hRX.symm
   clear hRX
   unfold Arg.agg at *
   go_wp2_with(first|(go_at_call 273;refine mB (HAL.out _) ?_;intro l4 q4)|(go_at_call 21;refine(zA3 _ _).mono ?_;rintro e w3 ⟨rfl,hb⟩;obtain⟨l3,q3,rfl⟩:=zA0 (zCA HBZ.out hb bel);clear hb))
   all_goals go_returns
   all_goals exact⟨by rw[HRR.out],bel⟩
  ·rw[if_neg (by simp)] at hRX
   have HRY:=zh hRX
   clear hRX
   obtain⟨iV,hiV,hz0,hz1,hz2⟩:=info_parts info_V
   obtain⟨v,hv⟩:∃ v,a1.val=v:=⟨_,rfl⟩
   rw[hv] at H6 HRY
   clear hv
   unfold Arg.agg at *
   go_wp2_with(first|(go_at_call 273;refine mB (HAL.out _) ?_;intro l4 q4)|(go_at_call 274;refine(HH.out _ bel).mono ?_;rintro e w5 ⟨bm,rfl,hM,hbm,hb⟩;have HBL:=zh ((show Below wc.heap.size wc _ from bel).trans (hb.mono (show Below wc.heap.size wc _ from bel).size));have HM:=zh hM;have u10:=cell_below (H7.out 10 _ rfl) HBL.out;have l7':p7<w5.heap.size:=World.block_lt_of_cell? w5 _ u10;clear hM hb hbm k0 k1 k2 k3 k4 k5 k6 k7 k8 k9 k10))
   obtain⟨n,hn⟩:∃ n,a2.n=n:=⟨_,rfl⟩
   obtain⟨Ae,hAe⟩:∃ Ae,a2.ents=Ae:=⟨_,rfl⟩
   obtain⟨ce,hce⟩:∃ ce,a2.c=ce:=⟨_,rfl⟩
   rw[hn] at hel2 hn2 ⊢
   rw[hn,hAe] at HE2
   rw[hAe,hce]
   clear u10 l7' hn hAe hce
   go_loopw [34,9] (fun t s wr=>∃ j:Nat,∃ z:List V,j<=n/\t=.int .i64 j/\z=sumifL a0 es0 v a2 (es2.take j)/\zAW w5 wr 44 5 s z.length (flat z)) (fun t _ _=>n-(intOf t).toNat)
   case atStart=>exact⟨0,[],Nat.zero_le _,rfl,rfl,Below.refl _ _,World.ownsRow_nil _ _ _ _⟩
   case round =>
    obtain⟨j,z,hj,rfl,hz,hG⟩:=hrel
    have hbw:Below w.heap.size w wr:=(HB0.out.trans (HBL.out.mono HB0.out.size)).trans (hG.1.mono (Nat.le_trans HB0.out.size HBL.out.size))
    have hbc:Below wc.heap.size wc wr:=HBL.out.trans (hG.1.mono HBL.out.size)
    have hws:=hG.1.size
    have hzl:z.length<=j:=by rw[hz];exact Nat.le_trans (sumifL_le _ _ _ _ _) (by rw[List.length_take];omega)
    have HBW:=zh hbw
    have HBC:=zh hbc
    have HG:=zh hG
    have HZ:=zh hz
    clear hbw hbc hG hz
    by_cases hlt:j<n
    ·obtain⟨x,hx⟩:∃ x,es2[j]? =some x:=⟨_,List.getElem?_eq_getElem (show j<es2.length by omega)⟩
     obtain⟨bk,off,rfl,_,hc⟩:=HE2.out.2 (by omega)
     have hcell:∀ i u,x.cells[i]? =some u->wr.cell? ⟨bk,off+(j*7+i),none⟩=some u:=fun i u hu=>by
      have h1:=hc _ u (zA9 En.cells 7 (fun _=>rfl) es2 j x hx i u hu)
      exact(HBW.out.cell (p:=⟨bk,_,none⟩) (World.block_lt_of_cell? w _ h1)).trans h1
     have e0:=hcell 0 _ rfl
     have e1:=hcell 1 _ rfl
     have e2:=hcell 2 _ rfl
     have e3:=hcell 3 _ rfl
     have e4:=hcell 4 _ rfl
     have e5:=hcell 5 _ rfl
     have e6:=hcell 6 _ rfl
     simp only[<- Nat.add_assoc,Nat.add_zero] at e0 e1 e2 e3 e4 e5 e6
     have hbr:=cltK e0
     have hsx:=HES.out x (List.mem_of_getElem? hx)
     have hsa:=HS2.out
     unfold SmallE at hsx
     unfold zAQ at hsa
     obtain⟨g,hg⟩:∃ g,lookG a0 es0 (plE a2 x)=g:=⟨_,rfl⟩
     have hsn:=sumifL_snoc (a0:=a0) (es0:=es0) (v:=v) (a2:=a2) hx
     rw[hg] at hsn
     have hqx:=eqlV g.tag g.num g.str g.is g.code v.tag v.num v.str v.is v.code
     obtain⟨bz,hbz⟩:∃ bz,eqB g v=bz:=⟨_,rfl⟩
     rw[hbz,<-HZ.out] at hsn
     rw[show eqB ⟨g.tag,g.num,g.str,g.is,g.code⟩ ⟨v.tag,v.num,v.str,v.is,v.code⟩=bz from hbz] at hqx
     have HSN:=zh hsn
     have HG2:=zh hg
     have s1:wrap64 (x.row-a2.top)=x.row-a2.top:=wr64 (by omega) (by omega)
     have s2:wrap64 (x.col-a2.left)=x.col-a2.left:=wr64 (by omega) (by omega)
     have HOK:=zh (show Ok64 (plE a2 x) from ⟨⟨by unfold plE;simp only;omega,by unfold plE;simp only;omega⟩,⟨by unfold plE;simp only;omega,by unfold plE;simp only;omega⟩⟩)
     have S1:=zh s1
     have S2:=zh s2
     clear hcell hc hx hsx hsa hsn hbz hg s1 s2
     go_wp2_with fail
     obtain⟨W9,hW9⟩:∃ W9,W9=wr.alloc (eObj x):=⟨_,rfl⟩
     rw[<- hW9]
     have hb9:Below wr.heap.size wr W9:=by rw[hW9];exact bel
     have hc9:Below wc.heap.size wc W9:=HBC.out.trans (hb9.mono HBC.out.size)
     have z9:wr.heap.size<W9.heap.size:=by rw[hW9];simp
     have z7:p7<W9.heap.size:=Nat.lt_of_lt_of_le l7 hc9.size
     have z6:p6<W9.heap.size:=Nat.lt_of_lt_of_le l6 hc9.size
     have s1:=S1.out
     have s2:=S2.out
     have q0:W9.cell? ⟨wr.heap.size,0,none⟩=some (.int .i64 x.row):=by rw[hW9];go_simp
     have q1:W9.cell? ⟨wr.heap.size,1,none⟩=some (.int .i64 x.col):=by rw[hW9];go_simp
     have f6:=cell_below (H7.out 6 _ rfl) hc9
     have f7:=cell_below (H7.out 7 _ rfl) hc9
     have v0:=cell_below (H6.out 0 _ rfl) hc9
     have v1:=cell_below (H6.out 1 _ rfl) hc9
     have v2:=cell_below (H6.out 2 _ rfl) hc9
     have v3:=cell_below (H6.out 3 _ rfl) hc9
     have v4:=cell_below (H6.out 4 _ rfl) hc9
     have hL:∀ l n,(Instr.lookup 301 (.map (some bm)) (.agg #[.int .i64 (x.row-a2.top),.int .i64 (x.col-a2.left)]) false).run Tryz.prog (more W9 l n)=.ok (vG g) (more W9 l n):=fun l n=>by
      have h:=((HM.out.at0 (HG.out.1.trans (hb9.mono hws))).at0 (zAi (l:=l) (n:=n) (Nat.le_refl _))).look1 place_key Tryz.underlying301 (zero_V _) (plE a2 x) HOK.out
      rw[lookG_eq,HG2.out] at h
      exact h
     have HW9:=zh hW9
     clear hW9 hb9 hc9 e0 e1 e2 e3 e4 e5 e6 hbr
     (refine qmI ?_;(repeat(go_big_quiet_step (fail)));refine qmE ?_;intro lq nq)
     have hW9:=HW9.out
     subst hW9
     clear hL z9 z7 z6 q0 q1 f6 f7 v0 v1 v2 v3 v4 HW9
     cases bz
     ·go_wp2
      go_roundw
      case rel=>exact⟨j+1,_,by omega,by go_num,by rw[HSN.out];simp,HG.out.1.trans ((show Below wr.heap.size wr _ from bel).mono HG.out.1.size),own_below HG.out.2 bel⟩
      case measure=>simp[intOf];omega
     ·go_wp2_with(at_builtin;refine wpList_append_own _ rfl _ _ 194 rfl w5.heap.size 44 iV _ 5 48 Tryz.underlying194 hiV hz0 hz1 hz2 rfl (by decide) _ _ _ rfl (own_below HG.out.2 bel) _ 1 1 x.v.cells rfl rfl ?_ ?_ ?_ ?_ ?_ ?_)
      ·first|exact fun i u hu=>zAe (by simp) i u hu|exact fun i u hu=>hu
      ·exact cells_one _
      ·simp only[maxLen];omega
      ·omega
      ·have h1:=HG.out.1.size
       simp at h1 ⊢
       omega
      ·intro v' w3 hown' hgrow _
       have R:=zAW.step HG.out bel (show w3.ownsRow w5.heap.size 44 5 v' (z.length+1) (flat (z)++x.v.cells) from by simpa using hown') hgrow
       rw[show flat (z)++x.v.cells=flat (z++[x.v]) by rw[zC7];simp[flat],show z.length+1=(z++[x.v]).length by simp] at R
       have HG':=zh R
       clear hown' hgrow R HG
       go_wp2
       go_roundw
       case rel=>exact⟨j+1,_,by omega,by go_num,by rw[HSN.out];simp,HG'.out⟩
       case measure=>simp[intOf];omega
    ·obtain rfl:j=n:=by omega
     have hz:=HZ.out
     rw[List.take_of_length_le (by omega)] at hz
     have hO:=HG.out.2
     have hB:Below (w.alloc zObj).heap.size (w.alloc zObj) wr:=HBZ.out.trans (HBC.out.mono HBZ.out.size)
     have HV6:=zh (show ∀ x∈z,Is64 x.num by
      intro x hx
      rw[hz] at hx
      unfold sumifL at hx
      simp only[List.mem_map,List.mem_filter] at hx
      obtain⟨e,⟨he,_⟩,rfl⟩:=hx
      exact H64.out e he)
     have HA:=zh (fun A' c' B' W (h:Reads W B' 5 A' z.length (flat z))=>aggs_among z A' z.length c' B' W h (by omega))
     have HS:=zh (fun A' c' B' W (h:Reads W B' 1 A' (zAA z).1.length (I (zAA z).1))=>aggs_sum (zAA z).1 A' (zAA z).1.length c' B' W h (by have:=among_len z;omega) (among_64 HV6.out))
     have hRX:=HRY.out
     rw[<- hz] at hRX
     obtain⟨ls,hls⟩:∃ ls,(zAA z).1=ls:=⟨_,rfl⟩
     obtain⟨f,hf⟩:∃ f,(zAA z).2=f:=⟨_,rfl⟩
     rw[hls,hf] at hRX
     rw[hls] at HS
     simp only[hls,hf] at HA
     obtain⟨l0,q0,hwe⟩:=zA0 hB
     subst hwe
     obtain⟨Ai,ci,rfl⟩:=zAK hO
     have HO:=zh (Reads.zB5 hO)
     clear hO hB hz hls hf HG HZ
     by_cases h4:f.tag=4
     ·have h4':(f.tag==4)=true:=by simp[h4]
      rw[if_pos h4] at hRX
      have HRR:=zh hRX.symm
      clear h4 hRX
      go_wp2_with(go_at_call 265;refine(HA.out _ _ _ _ HO.out).mono ?_;rintro e w2 ⟨s,rfl,ho2,hb⟩;obtain⟨Aj,cj,rfl⟩:=zAK ho2;obtain⟨l2,q2,rfl⟩:=zA0 hb;clear hb;simp only[zAO,List.append_assoc] at ho2;have HO2:=zh ho2;clear ho2)
      all_goals go_returns
      all_goals exact⟨by rw[HRR.out],bel⟩
     ·have h4':(f.tag==4)=false:=by simp[h4]
      rw[if_neg h4] at hRX
      obtain⟨S,hS⟩:∃ S,ls.sum=S:=⟨_,rfl⟩
      rw[hS] at hRX
      simp only[hS] at HS
      have HRR:=zh hRX.symm
      clear h4 hRX hS
      go_wp2_with(first|(go_at_call 265;refine(HA.out _ _ _ _ HO.out).mono ?_;rintro e w2 ⟨s,rfl,ho2,hb⟩;obtain⟨Aj,cj,rfl⟩:=zAK ho2;obtain⟨l2,q2,rfl⟩:=zA0 hb;clear hb;simp only[zAO,List.append_assoc] at ho2;have HO2:=zh ho2;clear ho2)|(go_at_call 203;refine mB (HS.out _ _ _ _ (Reads.zB5 (own_below HO2.out bel))) ?_;intro l3 q3)|(go_at_call 202;refine mB (aggs_fit S _) ?_;intro l4 q4))
      all_goals go_returns
      all_goals exact⟨by rw[HRR.out],bel⟩
end Go.Proofs.YtppghgnhlgoagaaGreatDoor
