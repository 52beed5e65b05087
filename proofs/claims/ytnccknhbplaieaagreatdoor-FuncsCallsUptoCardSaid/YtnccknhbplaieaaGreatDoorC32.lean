/- Parts. -/
import Derived.Test.YtnccknhbplaieaaGreatDoorC28
set_option linter.all false
set_option maxRecDepth 100000
set_option maxHeartbeats 4000000
namespace Go.Proofs.YtnccknhbplaieaaGreatDoor
open Go Go.RowKit Go.Proofs.Tryz
open Go.Lib renaming hid->zh
open Go.World renaming block_lt_of_cell?->Q3,size_alloc->QA,ownsRow_nil->QC
open _root_.List renaming getElem?_eq_getElem->Q4,not_mem_nil->Q8,mem_cons->Q9,getElem?_map->QB,take_of_length_le->QD,mem_of_getElem?->QE,length_append->QF
open _root_.Nat renaming add_assoc->Q5,add_zero->Q7,zero_le->QG,le_refl->QH
open _root_.UInt8 renaming toNat_inj->QI
theorem info_S:(prog.info? 9).map (fun i=>(i.zero,i.size,i.bytes))=some (some (.string ⟨#[]⟩),1,16):=by kernel_rfl
theorem info_Int:(prog.info? 3).map (fun i=>(i.zero,i.size,i.bytes))=some (some (.int .i64 0),1,8):=by kernel_rfl
theorem texts_Call (s:ByteArray) (al:List Arg) (A:Option Addr) (n c B:Nat) (tx:Int) (w:World) (hr:Reads w B 11 A n (zAY al)) (hm:n<=1000000000000) (h64:∀ a∈al,Is64 a.val.num) (hsz:∀ a∈al,a.val.str.size<=1048576) (hp:Pow10 w) (hM:MaxL w) (ok:Nat->Bool)
  (hok:∀ j a,al[j]? =some a->∀ W,Below w.heap.size w W->Rt 150 #[a.agg] W (.bool (ok j))) :
  Rt 79 #[.string s,.slice A n c,.int .i64 tx] w (vG (zBY s al ok tx)):=by
 have gE:=zh hsz;have HP:=zh hp;have HM:=zh hM;clear hsz hp hM;have He:al.length=n:=by
  have:=hr.1;rw[zAN] at this;omega
 obtain⟨bs,Hn⟩:∃ bs,bs=(al.map Arg.many).map Value.bool:=⟨_,rfl⟩
 have hbl:bs.length=n:=by rw[Hn];simp[He]
 have hs:∀ (j:Nat) (x:Arg),al[j]? =some x->bs[j]? =some (.bool x.many):=fun j x hx=>by rw[Hn,QB,QB,hx];rfl
 obtain⟨R,hR⟩:=lt_ (zBY s al ok tx);rw[hR];have gy:=zh hs;have gw:=zh Hn;have HR:=zh hr;have gd:=zh hok;have hT:=zh hR;have gu:=zh h64;have hq:=zh He;clear hs Hn hr hok hR h64;obtain⟨i0,hi,gO,gP,gQ⟩:=info_parts info_B;by_cases ht0:tx<0
 have hv:=zh (show R=errG 8 by rw[<- hT.out];exact if_pos (.inl ht0))
 rotate_left
 by_cases ht1:1024<tx
 have hv:=zh (show R=errG 8 by rw[<- hT.out];exact if_pos (.inr ht1))
 rotate_left
 ·have hT:=zh (show (if (List.range al.length).all ok then if zAx s (al.map Arg.many) then textsVals s tx.toNat (al.map Arg.val) else errG 8 else errG 8)=R from (if_neg (show ¬ (tx<0∨1024<tx) by omega)).symm.trans hT.out);go_enter func79,ntmps79;go_wp2
  go_loopw [32,7] (fun t v wr=>∃ j:Nat,j<=n/\t=.int .i64 j/\(∀ k,k<j->ok k=true)/\zAA (w.alloc zeroV) wr 4 1 v j (bs.take j)) (fun t _ _=>n-(intOf t).toNat)
  case atStart=>exact⟨0,QG _,rfl,fun k hk=>by omega,Below.refl _ _,QC _ _ _ _⟩
  case round =>
   obtain⟨j,hj,rfl,hw,hG⟩:=hrel;have hP:Below w.heap.size w (w.alloc zeroV):=bel;have hQ:Below w.heap.size w wr:=hP.trans (hG.1.mono hP.size);have HQ:=hQ.size;have Hb:=zh hQ;have hC:=zh hw;have HG:=zh hG;clear hw hG hQ hP;by_cases hlt:j<n
   obtain⟨a,ha⟩:∃ a,al[j]? =some a:=⟨_,Q4 (show j<al.length by omega)⟩
   obtain⟨bk,off,rfl,_,hc⟩:=HR.out.2 (by omega);have hg:∀ i u,a.cells[i]? =some u->wr.cell? ⟨bk,off+(j*11+i),none⟩=some u:=fun i u hu=>by
    have h1:=hc _ u (zAP al j a ha i u hu);exact(Hb.out.cell (p:=⟨bk,_,none⟩) (Q3 w _ h1)).trans h1
   obtain⟨c0,c1,c2,c3,c4,c5,c6,c7,c8,c9,c10⟩:=tkB hg;simp only[<- Q5,Q7] at c0 c1 c2 c3 c4 c5 c6 c7 c8 c9 c10;have hV:=cltK c0;have hS:=zh (fun i u (hu:a.cells[i]? =some u)=>hc _ u (zAP al j a ha i u hu));clear hg hc;have gv:=zh ha;have hL:=gd.out j a ha;obtain⟨z,hz⟩:=lt_ (ok j);rw[hz] at hL;have gc:=zh (fun W (hB:Below wr.heap.size wr W)=>hL W (Hb.out.trans (hB.mono HQ)));clear hL ha;cases z;have hv:=zh (show R=errG 8 by rw[<- hT.out,hq.out,all_no hlt hz];rfl);clear hz;obtain⟨l0,q0,hy⟩:=zA0 HG.out.1;subst hy;unfold zeroV at *;clear c0 c1 c2 c3 c4 c5 c6 c7 c8 c9 c10 hV;obtain⟨c0,c1,c2,c3,c4,c5,c6,c7,c8,c9,c10⟩:=tkB hS.out;simp only[<- Q5,Q7] at c0 c1 c2 c3 c4 c5 c6 c7 c8 c9 c10;have HI:=cltK c0
   rotate_left
   ·have HZ:=zh hz;clear hz;go_wp2_with(first|(go_at_call 150;refine mB (gc.out _ bel) ?_;intro l2 q2)|(at_builtin;refine wpList_append_own _ rfl _ _ 61 rfl (w.alloc zeroV).heap.size 4 i0 _ 1 1 underlying61 hi gO gP gQ rfl (by decide) _ _ _ rfl (own_below HG.out.2 bel) _ 1 1 [.bool a.many] rfl rfl ?_ ?_ ?_ ?_ ?_ ?_))
    ·exact fun i u hu=>zAO (by simp) i u hu
    ·intro u hu;simp only[Q9,Q8,or_false] at hu;subst hu;rfl
    ·simp only[maxLen];omega
    ·omega
    ·have h1:=HG.out.1.size;simp at h1 ⊢;omega
    ·intro v' w3 he hd _;have R:=zAA.step HG.out bel (show w3.ownsRow (w.alloc zeroV).heap.size 4 1 v' (j+1) (bs.take j++[.bool a.many]) from by simpa using he) hd;rw[<- zAJ (gy.out j a gv.out)] at R;have hZ:=zh R;clear he hd R HG c0 c1 c2 c3 c4 c5 c6 c7 c8 c9 c10;go_wp2;go_roundw;case rel=>exact⟨j+1,by omega,by go_num,fun k hk=>by (by_cases e:k=j;(subst e;exact HZ.out);exact hC.out k (by omega)),hZ.out⟩
     case measure=>simp[intOf];omega
   obtain rfl:j=n:=by omega
   have hG:=HG.out;rw[QD (by omega)] at hG;obtain⟨hB,hO⟩:=hG;obtain⟨xsB,Hg⟩:∃ xsB,xsB=al.map Arg.many:=⟨_,rfl⟩
   rw[gw.out,<-Hg] at hO;obtain⟨A',c',rfl⟩:=zAB hO;have ge:=zh (Reads.zAC hO);have hw:(List.range al.length).all ok=true:=by
    rw[hq.out,List.all_eq_true];intro k hk;exact hC.out k (List.mem_range.1 hk)
   have hC:=zh (show ∀ k,k<al.length->ok k=true from fun k hk=>hC.out k (by have:=hq.out;omega));obtain⟨tk,HO⟩:=lt_ (zAx s xsB);have Hm:R=if tk then textsVals s tx.toNat (al.map Arg.val) else errG 8:=by rw[<- hT.out,if_pos hw,<-Hg,HO]
   have HA:=zh HO;have gt:xsB.length=j:=by rw[Hg,List.length_map,hq.out]
   have gh:=zh gt;have HXB:=zh Hg;obtain⟨l0,q0,rfl⟩:=zA0 hB;clear hO hB HG hw Hg HO gt Hb HQ gd;cases tk;have hv:=zh (show R=errG 8 from Hm);clear Hm;unfold zeroV at *
   rotate_left
   ·have Hw:=zh (show R=textsVals s tx.toNat (al.map Arg.val) from Hm);obtain⟨cK,x,ht,HH,gK,HN,gL⟩:=takesT_len HA.out;rw[gh.out] at gL;rw[gh.out] at HH gK HN;have HT:=zh ht;have gx:=zh HH;clear Hm ht HH;obtain⟨vs,Ho⟩:∃ vs,vs=al.map Arg.val:=⟨_,rfl⟩
    have gs:∀ (j:Nat) (x:Arg),al[j]? =some x->vs[j]? =some x.val:=fun j x hx=>by rw[Ho,QB,hx];rfl
    have hvl:vs.length=j:=by rw[Ho,List.length_map,hq.out]
    rw[<- Ho] at Hw;have gg:=zh gs;clear gs Ho;obtain⟨n,hn⟩:∃ n,n=j:=⟨_,rfl⟩
    subst hn;go_wp2_with(go_at_call 78;refine(texts_Takes s A' n c' xsB _ _ ge.out (by omega)).mono ?_;rw[HA.out];rintro e w4 ⟨rfl,hb⟩;obtain⟨l4,q4,rfl⟩:=zA0 hb;clear hb)
    go_loopw [53] (fun t wr=>∃ j:Nat,j<=n/\t=.int .i64 j/\(vs.take j).find? isF=none/\Below (w.alloc zeroV).heap.size (w.alloc zeroV) wr) (fun t _=>n-(intOf t).toNat)
    case atStart=>exact⟨0,QG _,rfl,rfl,bel⟩
    case round =>
     obtain⟨j,hj,rfl,hY,HE⟩:=hrel;have hP:Below w.heap.size w (w.alloc zeroV):=bel;have hQ:Below w.heap.size w wr:=hP.trans (HE.mono hP.size);have HQ:=hQ.size;have Hb:=zh hQ;have Hk:=zh hY;have Hh:=zh HE;clear hY HE hQ hP;by_cases hlt:j<n
     ·obtain⟨a,ha⟩:∃ a,al[j]? =some a:=⟨_,Q4 (show j<al.length by have:=hq.out;omega)⟩
      obtain⟨bk,off,rfl,_,hc⟩:=HR.out.2 (by omega);have hg:∀ i u,a.cells[i]? =some u->wr.cell? ⟨bk,off+(j*11+i),none⟩=some u:=fun i u hu=>by
       have h1:=hc _ u (zAP al j a ha i u hu);exact(Hb.out.cell (p:=⟨bk,_,none⟩) (Q3 w _ h1)).trans h1
      obtain⟨c0,c1,c2,c3,c4,c5,c6,c7,c8,c9,c10⟩:=tkB hg;simp only[<- Q5,Q7] at c0 c1 c2 c3 c4 c5 c6 c7 c8 c9 c10;have hV:=cltK c0;have hS:=zh (fun i u (hu:a.cells[i]? =some u)=>hc _ u (zAP al j a ha i u hu));clear hg hc;have hN:=gg.out j a ha;clear ha;by_cases hf:a.val.tag=4
      ·have hv:=zh (show R=a.val by rw[Hw.out];unfold textsVals;rw[find_yes hN Hk.out (by simp[isF,hf])]);have gH:(a.val.tag==4)=true:=by simp[hf]
       clear hf hN;obtain⟨l0,q0,hy⟩:=zA0 Hh.out;subst hy;unfold zeroV at *;clear c0 c1 c2 c3 c4 c5 c6 c7 c8 c9 c10 hV;obtain⟨c0,c1,c2,c3,c4,c5,c6,c7,c8,c9,c10⟩:=tkB hS.out;simp only[<- Q5,Q7] at c0 c1 c2 c3 c4 c5 c6 c7 c8 c9 c10;have HI:=cltK c0;go_wp2;all_goals(go_returns;exact⟨by rw[hv.out],bel⟩)
      ·have gB:=zh (find_no hN Hk.out (by simp[isF,hf]));have gH:(a.val.tag==4)=false:=by simp[hf]
       clear hf hN;go_wp2;go_roundw;case rel=>exact⟨j+1,by omega,by go_num,gB.out,Hh.out.trans ((show Below wr.heap.size wr _ from bel).mono Hh.out.size)⟩
       case measure=>simp[intOf];omega
     ·obtain rfl:j=n:=by omega
      have hY:=Hk.out;rw[QD (by omega)] at hY;have gC:=zh (show R=textsGo s tx.toNat cK vs 0 [] [] by rw[Hw.out];unfold textsVals;rw[hY];simp only;rw[HT.out]);clear hY Hk;obtain⟨l5,q5,hy⟩:=zA0 Hh.out;subst hy;obtain⟨n,hn⟩:∃ n,n=j:=⟨_,rfl⟩
      subst hn;unfold zeroV at *;go_wp2_with fail
      go_at_call 149
      refine(zBu s cK x HT.out _).mono ?_;rintro e wf ⟨⟨fn,first,cap,rfl,p1,p2,gj,hk⟩,hb⟩;obtain⟨l7,q7,rfl⟩:=zA0 hb;rw[zAQ] at hk ⊢;obtain⟨l,hl⟩:∃ l,l=l5++l7:=⟨_,rfl⟩
      rw[<- hl] at hk ⊢;have gz:=zh gj;have HK:=zh hk;clear gj hk hb hl;obtain⟨WB,hU⟩:∃ WB,WB=(more (w.alloc zObj) l q7).alloc (.cells #[.string cK,.int .i64 x,.func fn first cap] 174):=⟨_,rfl⟩
      have HB:=zh hU;have Hf:WB.heap.size=w.heap.size+1+l.length+1:=by rw[hU];simp
      have ho:=zh Hf;have ga:=zh (show Below (w.heap.size+1) (w.alloc zObj) WB by rw[hU];exact bel);have k0:WB.cell? ⟨w.heap.size+1+l.length,0,none⟩=some (.string cK):=by rw[hU];go_simp
      have k2:WB.cell? ⟨w.heap.size+1+l.length,2,none⟩=some (.func fn first cap):=by rw[hU];go_simp
      clear hU Hf;have K0:=zh k0;have K2:=zh k2;clear k0 k2;obtain⟨iS,hiS,HU,HW,HY⟩:=info_parts info_S;obtain⟨iI,gI,HS,HV,HX⟩:=info_parts info_Int;go_wp2
      go_loopw [73] (fun t wr=>∃ j:Nat,∃ ss:List ByteArray,∃ ns:List Int,∃ sv nv:Value,j<=n/\t=.int .i64 j/\GivRel WB wr tx ss ns sv nv/\textsGo s tx.toNat cK (vs.drop j) j ss ns=R/\ss.length=cntK cK j true/\ns.length=cntK cK j false/\(∀ t∈ss,t.size<=1048576)/\(∀ a∈ns,Is64 a)) (fun t _=>n-(intOf t).toNat)
      case atStart=>exact⟨0,[],[],_,_,QG _,rfl,⟨by rw[HB.out];exact zBb (Below.refl _ _) _ (QH _),by rw[HB.out];exact heap_alloc_new _ _,QC _ _ _ _,QC _ _ _ _⟩,gC.out.symm,rfl,rfl,(fun t ht=>by simp at ht),(fun t ht=>by simp at ht)⟩
      case round =>
       obtain⟨j,ss,ns,sv,nv,hj,rfl,hG,hh,gp,gn,gq,go⟩:=hrel;have HG:=zh hG;have gb:=zh hh;have Hz:=zh gq;have Hv:=zh go;have Hs:=zh (show Below (w.alloc zObj).heap.size (w.alloc zObj) wr from (by rw[QA];exact ga.out:Below (w.alloc zObj).heap.size (w.alloc zObj) WB).trans (hG.bel.mono (by have:=ho.out;rw[QA];omega)));have k0:=cell_below K0.out hG.bel;have Hi:=zh ((show Below w.heap.size w (w.alloc zObj) from bel).trans ((ga.out.mono (Nat.le_succ _)).trans (hG.bel.mono (by have:=ho.out;omega))));have gk:=Q3 wr _ k0;obtain⟨g0,g1,g2,gf⟩:=hG.cell;have hJ:=hG.lt;have gf0:=gf 0;have gf1:=gf 1;have gf2:=gf 2;rw[ho.out] at g0 g1 g2 gf0 gf1 gf2 hJ;have Hl:=zh gp;have Hj:=zh gn;clear hG hh gq go gf gp gn;by_cases hlt:j<n
       ·obtain⟨a,ha⟩:∃ a,al[j]? =some a:=⟨_,Q4 (show j<al.length by have:=hq.out;omega)⟩
        obtain⟨bk,off,rfl,_,hc⟩:=HR.out.2 (by omega);have hg:∀ i u,a.cells[i]? =some u->wr.cell? ⟨bk,off+(j*11+i),none⟩=some u:=fun i u hu=>by
         have h1:=hc _ u (zAP al j a ha i u hu);exact(Hi.out.cell (p:=⟨bk,_,none⟩) (Q3 w _ h1)).trans h1
        obtain⟨c0,c1,c2,c3,c4,c5,c6,c7,c8,c9,c10⟩:=tkB hg;simp only[<- Q5,Q7] at c0 c1 c2 c3 c4 c5 c6 c7 c8 c9 c10;have hV:=cltK c0;have hS:=zh (fun i u (hu:a.cells[i]? =some u)=>hc _ u (zAP al j a ha i u hu));clear hg hc;have hN:=gg.out j a ha;have hkl:j<cK.size:=by omega
        have hE:=gu.out a (QE ha);have HF:=gE.out a (QE ha);have HD:=zh (drop_at hN);clear ha hN;have hX:cK.data.toList.getD j 0=cK[j]'hkl:=by rw[List.getD_eq_getElem?_getD,Q4 (by simpa using hkl)];rfl
        have hW:=fun b=>cntK_succ cK j b hkl;have hh:=gb.out;rw[HD.out] at hh;unfold textsGo at hh;by_cases hk1:(cK[j]'hkl).toNat=115
        ·rw[hX,if_pos hk1] at hh;have gJ:(((cK[j]'hkl).toNat:Int)==115)=true:=by simp[hk1]
         have Hd:(cK[j]'hkl==115)=true:=by simpa [<- QI] using hk1
         have hF:=hW true;have hH:=hW false;rw[hX,Hd] at hF hH;have Hx:=zh (show (ss++[(zAZ a.val).1]).length=cntK cK (j+1) true by rw[hF,QF,Hl.out];rfl);have Hy:=zh (show ns.length=cntK cK (j+1) false by rw[hH,Hj.out];rfl);have Ht:=zh hh;have gN:ss.length<=1000:=by have:=cntK_all cK j;have:=Hl.out;omega
         have gF:=zh (asTxt_size a.val hE HF);have Hr:=zh hE;clear hh hX hW hk1 Hd hF hH hE;go_wp2_with(first|(go_at_call 151;refine mB (value_AsText a.val Hr.out _ (HP.out.below (Hi.out.trans ((show Below wr.heap.size wr _ from bel).mono Hi.out.size)) (QH _))) ?_;intro l2 q2)|(at_builtin;refine wpList_append_own _ rfl _ _ 93 rfl WB.heap.size 9 iS _ 1 16 underlying93 hiS HU HW HY rfl (by decide) _ _ _ rfl (own_below HG.out.os bel) _ 1 1 [.string (zAZ a.val).1] rfl rfl ?_ ?_ ?_ ?_ ?_ ?_))
         ·first|exact fun i u hu=>zAO (by simp) i u hu|exact fun i u hu=>hu
         ·intro u hu;simp only[Q9,Q8,or_false] at hu;subst hu;rfl
         ·simp only[maxLen];omega
         ·omega
         ·have h1:=HG.out.bel.size;have:=ho.out;simp;omega
         ·intro v' w3 he hd hK;have R:=GivRel.addS HG.out bel (show w3.ownsRow WB.heap.size 9 1 v' (ss.length+1) (ss.map Value.string++[.string (zAZ a.val).1]) from by simpa using he) hd;have hs:=GivRel.boxS HG.out bel hd;rw[ho.out] at R hs;obtain⟨A3,cp3,rfl⟩:=zAB he;have hZ:=zh R;have g0:w3.cell? ⟨w.heap.size+1+l.length+1,0,none⟩=some sv:=by rw[Lib.cell_of_heap hs];rfl
          have gf0:w3.frozen? ⟨w.heap.size+1+l.length+1,0,none⟩=false:=Lib.frozen_of_heap hs 0;have gl:=Q3 w3 _ g0;clear hK he hd R hs HG c0 c1 c2 c3 c4 c5 c6 c7 c8 c9 c10;go_wp2;go_roundw;case rel=>exact⟨j+1,_,_,_,_,by omega,by go_num,hZ.out,Ht.out,Hx.out,Hy.out,fun t ht=>by (rcases List.mem_append.1 ht with ht|ht;(exact Hz.out t ht);(simp only[Q9,Q8,or_false] at ht;subst ht;exact gF.out)),Hv.out⟩
          case measure=>simp[intOf];omega
        ·rw[hX,if_neg hk1] at hh;have gJ:(((cK[j]'hkl).toNat:Int)==115)=false:=by simp;omega
         have Hd:(cK[j]'hkl==115)=false:=by simpa [<- QI] using hk1
         have hF:=hW true;have hH:=hW false;rw[hX,Hd] at hF hH;have hA:=zh (asNum_63 a.val hE);clear hX hW hk1 Hd;obtain⟨x0,Hp⟩:=lt_ ((zA5 a.val).1);obtain⟨cd,HL⟩:=lt_ ((zA5 a.val).2);rw[Hp] at hA;rw[Hp,HL] at hh;have Hu:=zh (fun W=>(show Rt 148 #[(vG (a.val))] W (.tuple #[.int .i64 x0,.int .i64 cd]) by have:=zBX a.val W;rw[Hp,HL] at this;exact this));clear Hp HL;by_cases hc0:cd=0
         ·subst hc0;rw[if_neg (by simp)] at hh;have Ha:=zh (whole_is64 x0 hA.out);obtain⟨y0,Hq⟩:=lt_ ((zAF x0).1);obtain⟨k0',hI⟩:=lt_ ((zAF x0).2);rw[Hq] at Ha;rw[Hq,hI] at hh;have Hc:=zh (fun W=>(show Calls prog 152 #[.int .i64 x0] W fun e w'=>e=.returned (.tuple #[.int .i64 y0,.bool k0'])/\W=w' by have:=zB0 x0 (by have:=hA.out;unfold In63 at this;omega) (by have:=hA.out;unfold In63 at this;omega) W;rw[Hq,hI] at this;exact this));clear Hq hI;cases k0'
          ·rw[if_pos rfl] at hh;have hv:=zh hh.symm;clear hh hF hH;obtain⟨l0,q0,hy⟩:=zA0 Hs.out;subst hy;simp only[zBo,QA] at gk hJ;clear c0 c1 c2 c3 c4 c5 c6 c7 c8 c9 c10 hV;obtain⟨c0,c1,c2,c3,c4,c5,c6,c7,c8,c9,c10⟩:=tkB hS.out;simp only[<- Q5,Q7] at c0 c1 c2 c3 c4 c5 c6 c7 c8 c9 c10;have HI:=cltK c0;go_wp2_with(first|(go_at_call 148;refine mB (Hu.out _) ?_;intro l2 q2)|(go_at_call 152;refine(Hc.out _).mono ?_;rintro e w4 ⟨rfl,hb⟩;subst hb)|(go_at_call 13;refine mB (zA3 _ _) ?_;intro l3 q3))
           all_goals(go_returns;exact⟨by rw[hv.out],bel⟩)
          ·rw[if_neg (by simp)] at hh;have Hx:=zh (show ss.length=cntK cK (j+1) true by rw[hF,Hl.out];rfl);have Hy:=zh (show (ns++[y0]).length=cntK cK (j+1) false by rw[hH,QF,Hj.out];rfl);have Ht:=zh hh;have gM:ns.length<=1000:=by have:cntK cK j false<=j:=(by unfold cntK;exact Nat.le_trans (List.length_filter_le _ _) (by rw[List.length_take];omega));have:=Hj.out;omega
           clear hh hF hH;go_wp2_with(first|(go_at_call 148;refine mB (Hu.out _) ?_;intro l2 q2)|(go_at_call 152;refine(Hc.out _).mono ?_;rintro e w4 ⟨rfl,hb⟩;subst hb)|(at_builtin;refine wpList_append_own _ rfl _ _ 94 rfl WB.heap.size 3 iI _ 1 8 underlying94 gI HS HV HX rfl (by decide) _ _ _ rfl (own_below HG.out.on bel) _ 1 1 [.int .i64 y0] rfl rfl ?_ ?_ ?_ ?_ ?_ ?_))
           ·first|exact fun i u hu=>zAO (by simp) i u hu|exact fun i u hu=>hu
           ·intro u hu;simp only[Q9,Q8,or_false] at hu;subst hu;rfl
           ·simp only[maxLen];omega
           ·omega
           ·have h1:=HG.out.bel.size;have:=ho.out;simp;omega
           ·intro v' w3 he hd hK;have R:=GivRel.addN HG.out bel (show w3.ownsRow WB.heap.size 3 1 v' (ns.length+1) ((ns.map fun n=>Value.int .i64 n)++[.int .i64 y0]) from by simpa using he) hd;have hs:=GivRel.boxN HG.out bel hd;rw[ho.out] at R hs;obtain⟨A3,cp3,rfl⟩:=zAB he;have hZ:=zh R;have g1:w3.cell? ⟨w.heap.size+1+l.length+1,1,none⟩=some nv:=by rw[Lib.cell_of_heap hs];rfl
            have gf1:w3.frozen? ⟨w.heap.size+1+l.length+1,1,none⟩=false:=Lib.frozen_of_heap hs 1;have gl:=Q3 w3 _ g1;clear hK he hd R hs HG c0 c1 c2 c3 c4 c5 c6 c7 c8 c9 c10;go_wp2;go_roundw;case rel=>exact⟨j+1,_,_,_,_,by omega,by go_num,hZ.out,Ht.out,Hx.out,Hy.out,Hz.out,fun t ht=>by (rcases List.mem_append.1 ht with ht|ht;(exact Hv.out t ht);(simp only[Q9,Q8,or_false] at ht;subst ht;exact Ha.out))⟩
            case measure=>simp[intOf];omega
         ·rw[if_pos hc0] at hh;have hv:=zh hh.symm;have gG:(cd != 0)=true:=by simpa using hc0
          clear hh hF hH hc0;obtain⟨l0,q0,hy⟩:=zA0 Hs.out;subst hy;simp only[zBo,QA] at gk hJ;clear c0 c1 c2 c3 c4 c5 c6 c7 c8 c9 c10 hV;obtain⟨c0,c1,c2,c3,c4,c5,c6,c7,c8,c9,c10⟩:=tkB hS.out;simp only[<- Q5,Q7] at c0 c1 c2 c3 c4 c5 c6 c7 c8 c9 c10;have HI:=cltK c0;go_wp2_with(first|(go_at_call 148;refine mB (Hu.out _) ?_;intro l2 q2)|(go_at_call 13;refine mB (zA3 _ _) ?_;intro l3 q3))
          all_goals(go_returns;exact⟨by rw[hv.out],bel⟩)
       obtain rfl:j=n:=by omega
       have hh:=gb.out;rw[List.drop_of_length_le (by omega)] at hh;have gr:((tx.toNat:Nat):Int)=tx:=Int.toNat_of_nonneg (by omega);have hD:=text_do HT.out gz.out HK.out tx.toNat (by omega) ss ns j gx.out Hl.out Hj.out Hz.out Hv.out;rw[show zBF s tx.toNat ss ns=R from hh] at hD;have gi:Below (more (w.alloc zObj) l q7).heap.size (more (w.alloc zObj) l q7) wr:=(show Below (more (w.alloc zObj) l q7).heap.size (more (w.alloc zObj) l q7) WB from by rw[HB.out];exact zBb (Below.refl _ _) _ (QH _)).trans (HG.out.bel.mono (by have:=ho.out;simp;omega));have gm:=HM.out.below Hi.out;have k2:=cell_below K2.out HG.out.bel;have gD:=zh (strRow_of HG.out.os);have gA:=zh (intRow_of HG.out.on);rcases hD with ⟨k,rfl,rfl,rfl,hk,hc⟩|⟨k,p,rfl,rfl,rfl,hk,hc⟩
       all_goals
        have HJ:=hc wr sv nv gi gm gD.out gA.out;rw[gr] at HJ;have HC:=zh HJ;clear hc HJ gr hh gi gm;obtain⟨l0,q0,hy⟩:=zA0 Hs.out;subst hy;go_wp2_with(with_reducible refine Calls.mono HC.out ?_;rintro e w5 ⟨rfl,hb⟩;obtain⟨l8,q8,rfl⟩:=zA0 hb;clear hb)
        all_goals(go_returns;exact rb_)
   all_goals
    go_wp2_with(first|(go_at_call 150;refine mB (gc.out _ bel) ?_;intro l2 q2)|(go_at_call 13;refine mB (zA3 _ _) ?_;intro l3 q3)|(go_at_call 78;refine(texts_Takes s A' j c' xsB _ _ ge.out (by omega)).mono ?_;rw[HA.out];rintro e w4 ⟨rfl,hb⟩;obtain⟨l4,q4,rfl⟩:=zA0 hb;clear hb))
    all_goals(go_returns;exact⟨by rw[hv.out],bel⟩)
 all_goals
  go_enter func79,ntmps79;go_wp2_with(go_at_call 13;refine mB (zA3 _ _) ?_;intro l3 q3)
  all_goals(go_returns;exact⟨by rw[hv.out],bel⟩)
end Go.Proofs.YtnccknhbplaieaaGreatDoor
