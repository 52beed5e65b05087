/- Parts. -/
import Derived.Test.YtppghgnhlgoagaaGreatDoorG29
set_option linter.all false
set_option maxRecDepth 100000
set_option maxHeartbeats 4000000
namespace Go.Proofs.YtppghgnhlgoagaaGreatDoor
open Go Go.RowKit
open Go.Lib renaming hid->zh
theorem info_S:(Tryz.prog.info? 9).map (fun i=>(i.zero,i.size,i.bytes))=some (some (.string ⟨#[]⟩),1,16):=by kernel_rfl
theorem info_Int:(Tryz.prog.info? 3).map (fun i=>(i.zero,i.size,i.bytes))=some (some (.int .i64 0),1,8):=by kernel_rfl
theorem texts_Call (s:ByteArray) (al:List Arg) (A:Option Addr) (n c B:Nat) (tx:Int) (w:World) (hr:Reads w B 11 A n (zBC al)) (hm:n<=1000000000000) (h64:∀ a∈al,Is64 a.val.num) (hsz:∀ a∈al,a.val.str.size<=1048576) (hp:zBs w) (hM:MaxL w) (ok:Nat->Bool)
  (hok:∀ j a,al[j]? =some a->∀ W,Below w.heap.size w W->Rt 133 #[a.agg] W (.bool (ok j))) :
  Rt 94 #[.string s,.slice A n c,.int .i64 tx] w (vG (zBH s al ok tx)):=by
 have HSZ:=zh hsz
 have HP:=zh hp
 have HM:=zh hM
 clear hsz hp hM
 have hlen:al.length=n:=by
  have:=hr.1
  rw[zAo] at this
  omega
 obtain⟨bs,hbs⟩:∃ bs,bs=(al.map Arg.many).map Value.bool:=⟨_,rfl⟩
 have hbl:bs.length=n:=by rw[hbs];simp[hlen]
 have hbx:∀ (j:Nat) (x:Arg),al[j]? =some x->bs[j]? =some (.bool x.many):=fun j x hx=>by rw[hbs,List.getElem?_map,List.getElem?_map,hx];rfl
 obtain⟨R,hR⟩:∃ R,zBH s al ok tx=R:=⟨_,rfl⟩
 rw[hR]
 have HBX:=zh hbx
 have HBS:=zh hbs
 have HR:=zh hr
 have HOK:=zh hok
 have HRX:=zh hR
 have H64:=zh h64
 have HLEN:=zh hlen
 clear hbx hbs hr hok hR h64
 obtain⟨i0,hi,hz0,hz1,hz2⟩:=info_parts info_B
 by_cases ht0:tx<0
 ·have HRR:=zh (show R=errG 8 by rw[<- HRX.out];exact if_pos (.inl ht0))
  go_enter Tryz.func94,Tryz.ntmps94
  go_wp2_with(go_at_call 21;refine mB (zA3 _ _) ?_;intro l3 q3)
  all_goals go_returns
  all_goals exact⟨by rw[HRR.out],bel⟩
 by_cases ht1:1024<tx
 ·have HRR:=zh (show R=errG 8 by rw[<- HRX.out];exact if_pos (.inr ht1))
  go_enter Tryz.func94,Tryz.ntmps94
  go_wp2_with(go_at_call 21;refine mB (zA3 _ _) ?_;intro l3 q3)
  all_goals go_returns
  all_goals exact⟨by rw[HRR.out],bel⟩
 have HRX:=zh (show (if (List.range al.length).all ok then if zBG s (al.map Arg.many) then zBd s tx.toNat (al.map Arg.val) else errG 8 else errG 8)=R from (if_neg (show ¬ (tx<0∨1024<tx) by omega)).symm.trans HRX.out)
 go_enter Tryz.func94,Tryz.ntmps94
 go_wp2
 go_loopw [32,7] (fun t v wr=>∃ j:Nat,j<=n/\t=.int .i64 j/\(∀ k,k<j->ok k=true)/\zAW (w.alloc zeroV) wr 4 1 v j (bs.take j)) (fun t _ _=>n-(intOf t).toNat)
 case atStart=>exact⟨0,Nat.zero_le _,rfl,fun k hk=>by omega,Below.refl _ _,World.ownsRow_nil _ _ _ _⟩
 case round =>
  obtain⟨j,hj,rfl,hall,hG⟩:=hrel
  have hw0:Below w.heap.size w (w.alloc zeroV):=bel
  have hwr:Below w.heap.size w wr:=hw0.trans (hG.1.mono hw0.size)
  have hws:=hwr.size
  have HWR:=zh hwr
  have HALL:=zh hall
  have HG:=zh hG
  clear hall hG hwr hw0
  by_cases hlt:j<n
  ·obtain⟨a,ha⟩:∃ a,al[j]? =some a:=⟨_,List.getElem?_eq_getElem (show j<al.length by omega)⟩
   obtain⟨bk,off,rfl,_,hc⟩:=HR.out.2 (by omega)
   have hcell:∀ i u,a.cells[i]? =some u->wr.cell? ⟨bk,off+(j*11+i),none⟩=some u:=fun i u hu=>by
    have h1:=hc _ u (zAb al j a ha i u hu)
    exact(HWR.out.cell (p:=⟨bk,_,none⟩) (World.block_lt_of_cell? w _ h1)).trans h1
   have c0:=hcell 0 _ rfl
   have c1:=hcell 1 _ rfl
   have c2:=hcell 2 _ rfl
   have c3:=hcell 3 _ rfl
   have c4:=hcell 4 _ rfl
   have c5:=hcell 5 _ rfl
   have c6:=hcell 6 _ rfl
   have c7:=hcell 7 _ rfl
   have c8:=hcell 8 _ rfl
   have c9:=hcell 9 _ rfl
   have c10:=hcell 10 _ rfl
   simp only[<- Nat.add_assoc,Nat.add_zero] at c0 c1 c2 c3 c4 c5 c6 c7 c8 c9 c10
   have hbr:=cltK c0
   have HCW:=zh (fun i u (hu:a.cells[i]? =some u)=>hc _ u (zAb al j a ha i u hu))
   clear hcell hc
   have HAJ:=zh ha
   have hokj:=HOK.out j a ha
   obtain⟨z,hz⟩:∃ z,ok j=z:=⟨_,rfl⟩
   rw[hz] at hokj
   have HMH:=zh (fun W (hB:Below wr.heap.size wr W)=>hokj W (HWR.out.trans (hB.mono hws)))
   clear hokj ha
   cases z
   ·have HRR:=zh (show R=errG 8 by rw[<- HRX.out,HLEN.out,all_no hlt hz];rfl)
    clear hz
    obtain⟨l0,q0,hwe⟩:=zA0 HG.out.1
    subst hwe
    unfold zeroV at *
    clear c0 c1 c2 c3 c4 c5 c6 c7 c8 c9 c10 hbr
    have c0:=HCW.out 0 _ rfl
    have c1:=HCW.out 1 _ rfl
    have c2:=HCW.out 2 _ rfl
    have c3:=HCW.out 3 _ rfl
    have c4:=HCW.out 4 _ rfl
    have c5:=HCW.out 5 _ rfl
    have c6:=HCW.out 6 _ rfl
    have c7:=HCW.out 7 _ rfl
    have c8:=HCW.out 8 _ rfl
    have c9:=HCW.out 9 _ rfl
    have c10:=HCW.out 10 _ rfl
    simp only[<- Nat.add_assoc,Nat.add_zero] at c0 c1 c2 c3 c4 c5 c6 c7 c8 c9 c10
    have hbw:=cltK c0
    go_wp2_with(first|(go_at_call 133;refine mB (HMH.out _ bel) ?_;intro l2 q2)|(go_at_call 21;refine mB (zA3 _ _) ?_;intro l3 q3))
    all_goals go_returns
    all_goals exact⟨by rw[HRR.out],bel⟩
   ·have HZ:=zh hz
    clear hz
    go_wp2_with(first|(go_at_call 133;refine mB (HMH.out _ bel) ?_;intro l2 q2)|(at_builtin;refine wpList_append_own _ rfl _ _ 132 rfl (w.alloc zeroV).heap.size 4 i0 _ 1 1 Tryz.underlying132 hi hz0 hz1 hz2 rfl (by decide) _ _ _ rfl (own_below HG.out.2 bel) _ 1 1 [.bool a.many] rfl rfl ?_ ?_ ?_ ?_ ?_ ?_))
    ·exact fun i u hu=>zAe (by simp) i u hu
    ·intro u hu;simp only[List.mem_cons,List.not_mem_nil,or_false] at hu;subst hu;rfl
    ·simp only[maxLen];omega
    ·omega
    ·have h1:=HG.out.1.size
     simp at h1 ⊢
     omega
    ·intro v' w3 hown' hgrow _
     have R:=zAW.step HG.out bel (show w3.ownsRow (w.alloc zeroV).heap.size 4 1 v' (j+1) (bs.take j++[.bool a.many]) from by simpa using hown') hgrow
     rw[<- zAn (HBX.out j a HAJ.out)] at R
     have HG':=zh R
     clear hown' hgrow R HG c0 c1 c2 c3 c4 c5 c6 c7 c8 c9 c10
     go_wp2
     go_roundw
     case rel=>exact⟨j+1,by omega,by go_num,fun k hk=>by (by_cases e:k=j;(subst e;exact HZ.out);exact HALL.out k (by omega)),HG'.out⟩
     case measure=>simp[intOf];omega
  ·obtain rfl:j=n:=by omega
   have hG:=HG.out
   rw[List.take_of_length_le (by omega)] at hG
   obtain⟨hB,hO⟩:=hG
   obtain⟨xsB,hxb⟩:∃ xsB,xsB=al.map Arg.many:=⟨_,rfl⟩
   rw[HBS.out,<-hxb] at hO
   obtain⟨A',c',rfl⟩:=zAK hO
   have HRD:=zh (Reads.zB5 hO)
   have hall:(List.range al.length).all ok=true:=by
    rw[HLEN.out,List.all_eq_true]
    intro k hk
    exact HALL.out k (List.mem_range.1 hk)
   have HALL:=zh (show ∀ k,k<al.length->ok k=true from fun k hk=>HALL.out k (by have:=HLEN.out;omega))
   obtain⟨tk,htk⟩:∃ tk,zBG s xsB=tk:=⟨_,rfl⟩
   have hR2:R=if tk then zBd s tx.toNat (al.map Arg.val) else errG 8:=by rw[<- HRX.out,if_pos hall,<-hxb,htk]
   have HTK:=zh htk
   have hxl:xsB.length=j:=by rw[hxb,List.length_map,HLEN.out]
   have HXL:=zh hxl
   have HXB:=zh hxb
   obtain⟨l0,q0,rfl⟩:=zA0 hB
   clear hO hB HG hall hxb htk hxl HWR hws HOK
   cases tk
   ·have HRR:=zh (show R=errG 8 from hR2)
    clear hR2
    unfold zeroV at *
    go_wp2_with(first|(go_at_call 93;refine(texts_Takes s A' j c' xsB _ _ HRD.out (by omega)).mono ?_;rw[HTK.out];rintro e w4 ⟨rfl,hb⟩;obtain⟨l4,q4,rfl⟩:=zA0 hb;clear hb)|(go_at_call 21;refine mB (zA3 _ _) ?_;intro l3 q3))
    all_goals go_returns
    all_goals exact⟨by rw[HRR.out],bel⟩
   ·have HR2:=zh (show R=zBd s tx.toNat (al.map Arg.val) from hR2)
    obtain⟨cK,x,ht,hbt,hn1,hn16,hnc⟩:=takesT_len HTK.out
    rw[HXL.out] at hnc
    rw[HXL.out] at hbt hn1 hn16
    have HT:=zh ht
    have HBT:=zh hbt
    clear hR2 ht hbt
    obtain⟨vs,hvs⟩:∃ vs,vs=al.map Arg.val:=⟨_,rfl⟩
    have hva:∀ (j:Nat) (x:Arg),al[j]? =some x->vs[j]? =some x.val:=fun j x hx=>by rw[hvs,List.getElem?_map,hx];rfl
    have hvl:vs.length=j:=by rw[hvs,List.length_map,HLEN.out]
    rw[<- hvs] at HR2
    have HVA:=zh hva
    clear hva hvs
    obtain⟨n,hn⟩:∃ n,n=j:=⟨_,rfl⟩
    subst hn
    go_wp2_with(go_at_call 93;refine(texts_Takes s A' n c' xsB _ _ HRD.out (by omega)).mono ?_;rw[HTK.out];rintro e w4 ⟨rfl,hb⟩;obtain⟨l4,q4,rfl⟩:=zA0 hb;clear hb)
    go_loopw [53] (fun t wr=>∃ j:Nat,j<=n/\t=.int .i64 j/\(vs.take j).find? isF=none/\Below (w.alloc zeroV).heap.size (w.alloc zeroV) wr) (fun t _=>n-(intOf t).toNat)
    case atStart=>exact⟨0,Nat.zero_le _,rfl,rfl,bel⟩
    case round =>
     obtain⟨j,hj,rfl,hno,hB0⟩:=hrel
     have hw0:Below w.heap.size w (w.alloc zeroV):=bel
     have hwr:Below w.heap.size w wr:=hw0.trans (hB0.mono hw0.size)
     have hws:=hwr.size
     have HWR:=zh hwr
     have HNO:=zh hno
     have HB0:=zh hB0
     clear hno hB0 hwr hw0
     by_cases hlt:j<n
     ·obtain⟨a,ha⟩:∃ a,al[j]? =some a:=⟨_,List.getElem?_eq_getElem (show j<al.length by have:=HLEN.out;omega)⟩
      obtain⟨bk,off,rfl,_,hc⟩:=HR.out.2 (by omega)
      have hcell:∀ i u,a.cells[i]? =some u->wr.cell? ⟨bk,off+(j*11+i),none⟩=some u:=fun i u hu=>by
       have h1:=hc _ u (zAb al j a ha i u hu)
       exact(HWR.out.cell (p:=⟨bk,_,none⟩) (World.block_lt_of_cell? w _ h1)).trans h1
      have c0:=hcell 0 _ rfl
      have c1:=hcell 1 _ rfl
      have c2:=hcell 2 _ rfl
      have c3:=hcell 3 _ rfl
      have c4:=hcell 4 _ rfl
      have c5:=hcell 5 _ rfl
      have c6:=hcell 6 _ rfl
      have c7:=hcell 7 _ rfl
      have c8:=hcell 8 _ rfl
      have c9:=hcell 9 _ rfl
      have c10:=hcell 10 _ rfl
      simp only[<- Nat.add_assoc,Nat.add_zero] at c0 c1 c2 c3 c4 c5 c6 c7 c8 c9 c10
      have hbr:=cltK c0
      have HCW:=zh (fun i u (hu:a.cells[i]? =some u)=>hc _ u (zAb al j a ha i u hu))
      clear hcell hc
      have hvj:=HVA.out j a ha
      clear ha
      by_cases hf:a.val.tag=4
      ·have HRR:=zh (show R=a.val by rw[HR2.out];unfold zBd;rw[find_yes hvj HNO.out (by simp[isF,hf])])
       have hf':(a.val.tag==4)=true:=by simp[hf]
       clear hf hvj
       obtain⟨l0,q0,hwe⟩:=zA0 HB0.out
       subst hwe
       unfold zeroV at *
       clear c0 c1 c2 c3 c4 c5 c6 c7 c8 c9 c10 hbr
       have c0:=HCW.out 0 _ rfl
       have c1:=HCW.out 1 _ rfl
       have c2:=HCW.out 2 _ rfl
       have c3:=HCW.out 3 _ rfl
       have c4:=HCW.out 4 _ rfl
       have c5:=HCW.out 5 _ rfl
       have c6:=HCW.out 6 _ rfl
       have c7:=HCW.out 7 _ rfl
       have c8:=HCW.out 8 _ rfl
       have c9:=HCW.out 9 _ rfl
       have c10:=HCW.out 10 _ rfl
       simp only[<- Nat.add_assoc,Nat.add_zero] at c0 c1 c2 c3 c4 c5 c6 c7 c8 c9 c10
       have hbw:=cltK c0
       go_wp2
       all_goals go_returns
       all_goals exact⟨by rw[HRR.out],bel⟩
      ·have HN2:=zh (find_no hvj HNO.out (by simp[isF,hf]))
       have hf':(a.val.tag==4)=false:=by simp[hf]
       clear hf hvj
       go_wp2
       go_roundw
       case rel=>exact⟨j+1,by omega,by go_num,HN2.out,HB0.out.trans ((show Below wr.heap.size wr _ from bel).mono HB0.out.size)⟩
       case measure=>simp[intOf];omega
     ·obtain rfl:j=n:=by omega
      have hno:=HNO.out
      rw[List.take_of_length_le (by omega)] at hno
      have HR3:=zh (show R=textsGo s tx.toNat cK vs 0 [] [] by rw[HR2.out];unfold zBd;rw[hno];simp only;rw[HT.out])
      clear hno HNO
      obtain⟨l5,q5,hwe⟩:=zA0 HB0.out
      subst hwe
      obtain⟨n,hn⟩:∃ n,n=j:=⟨_,rfl⟩
      subst hn
      unfold zeroV at *
      go_wp2_with fail
      go_at_call 132
      refine(zBh s cK x HT.out _).mono ?_
      rintro e wf ⟨⟨fn,first,cap,rfl,p1,p2,hfn,hk⟩,hb⟩
      obtain⟨l7,q7,rfl⟩:=zA0 hb
      rw[zAO] at hk ⊢
      obtain⟨l,hl⟩:∃ l,l=l5++l7:=⟨_,rfl⟩
      rw[<- hl] at hk ⊢
      have HFN:=zh hfn
      have HK:=zh hk
      clear hfn hk hb hl
      obtain⟨WB,hWB⟩:∃ WB,WB=(more (w.alloc zObj) l q7).alloc (.cells #[.string cK,.int .i64 x,.func fn first cap] 204):=⟨_,rfl⟩
      have HWB:=zh hWB
      have hwbs:WB.heap.size=w.heap.size+1+l.length+1:=by rw[hWB];simp
      have HWBS:=zh hwbs
      have HB1:=zh (show Below (w.heap.size+1) (w.alloc zObj) WB by rw[hWB];exact bel)
      have k0:WB.cell? ⟨w.heap.size+1+l.length,0,none⟩=some (.string cK):=by rw[hWB];go_simp
      have k2:WB.cell? ⟨w.heap.size+1+l.length,2,none⟩=some (.func fn first cap):=by rw[hWB];go_simp
      clear hWB hwbs
      have K0:=zh k0
      have K2:=zh k2
      clear k0 k2
      obtain⟨iS,hiS,hz0S,hz1S,hz2S⟩:=info_parts info_S
      obtain⟨iI,hiI,hz0I,hz1I,hz2I⟩:=info_parts info_Int
      go_wp2
      go_loopw [73] (fun t wr=>∃ j:Nat,∃ ss:List ByteArray,∃ ns:List Int,∃ sv nv:Value,j<=n/\t=.int .i64 j/\GivRel WB wr tx ss ns sv nv/\textsGo s tx.toNat cK (vs.drop j) j ss ns=R/\ss.length=cntK cK j true/\ns.length=cntK cK j false/\(∀ t∈ss,t.size<=1048576)/\(∀ a∈ns,Is64 a)) (fun t _=>n-(intOf t).toNat)
      case atStart=>exact⟨0,[],[],_,_,Nat.zero_le _,rfl,⟨by rw[HWB.out];exact zBx (Below.refl _ _) _ (Nat.le_refl _),by rw[HWB.out];exact heap_alloc_new _ _,World.ownsRow_nil _ _ _ _,World.ownsRow_nil _ _ _ _⟩,HR3.out.symm,rfl,rfl,(fun t ht=>by simp at ht),(fun t ht=>by simp at ht)⟩
      case round =>
       obtain⟨j,ss,ns,sv,nv,hj,rfl,hG,hgo,hsl,hnl,hss,hns⟩:=hrel
       have HG:=zh hG
       have HGO:=zh hgo
       have HSS:=zh hss
       have HNS:=zh hns
       have HBZ:=zh (show Below (w.alloc zObj).heap.size (w.alloc zObj) wr from (by rw[World.size_alloc];exact HB1.out:Below (w.alloc zObj).heap.size (w.alloc zObj) WB).trans (hG.bel.mono (by have:=HWBS.out;rw[World.size_alloc];omega)))
       have k0:=cell_below K0.out hG.bel
       have HB2:=zh ((show Below w.heap.size w (w.alloc zObj) from bel).trans ((HB1.out.mono (Nat.le_succ _)).trans (hG.bel.mono (by have:=HWBS.out;omega))))
       have hk0:=World.block_lt_of_cell? wr _ k0
       obtain⟨g0,g1,g2,gf⟩:=hG.cell
       have hlt0:=hG.lt
       have gf0:=gf 0
       have gf1:=gf 1
       have gf2:=gf 2
       rw[HWBS.out] at g0 g1 g2 gf0 gf1 gf2 hlt0
       have HSL:=zh hsl
       have HNL:=zh hnl
       clear hG hgo hss hns gf hsl hnl
       by_cases hlt:j<n
       ·obtain⟨a,ha⟩:∃ a,al[j]? =some a:=⟨_,List.getElem?_eq_getElem (show j<al.length by have:=HLEN.out;omega)⟩
        obtain⟨bk,off,rfl,_,hc⟩:=HR.out.2 (by omega)
        have hcell:∀ i u,a.cells[i]? =some u->wr.cell? ⟨bk,off+(j*11+i),none⟩=some u:=fun i u hu=>by
         have h1:=hc _ u (zAb al j a ha i u hu)
         exact(HB2.out.cell (p:=⟨bk,_,none⟩) (World.block_lt_of_cell? w _ h1)).trans h1
        have c0:=hcell 0 _ rfl
        have c1:=hcell 1 _ rfl
        have c2:=hcell 2 _ rfl
        have c3:=hcell 3 _ rfl
        have c4:=hcell 4 _ rfl
        have c5:=hcell 5 _ rfl
        have c6:=hcell 6 _ rfl
        have c7:=hcell 7 _ rfl
        have c8:=hcell 8 _ rfl
        have c9:=hcell 9 _ rfl
        have c10:=hcell 10 _ rfl
        simp only[<- Nat.add_assoc,Nat.add_zero] at c0 c1 c2 c3 c4 c5 c6 c7 c8 c9 c10
        have hbr:=cltK c0
        have HCW:=zh (fun i u (hu:a.cells[i]? =some u)=>hc _ u (zAb al j a ha i u hu))
        clear hcell hc
        have hvj:=HVA.out j a ha
        have hkl:j<cK.size:=by omega
        have ha64:=H64.out a (List.mem_of_getElem? ha)
        have hasz:=HSZ.out a (List.mem_of_getElem? ha)
        have HD:=zh (drop_at hvj)
        clear ha hvj
        have hkv:cK.data.toList.getD j 0=cK[j]'hkl:=by rw[List.getD_eq_getElem?_getD,List.getElem?_eq_getElem (by simpa using hkl)];rfl
        have hcs:=fun b=>cntK_succ cK j b hkl
        have hgo:=HGO.out
        rw[HD.out] at hgo
        unfold textsGo at hgo
        by_cases hk1:(cK[j]'hkl).toNat=115
        ·rw[hkv,if_pos hk1] at hgo
         have hk2:(((cK[j]'hkl).toNat:Int)==115)=true:=by simp[hk1]
         have hk3:(cK[j]'hkl==115)=true:=by simpa [<- UInt8.toNat_inj] using hk1
         have hs1:=hcs true
         have hs2:=hcs false
         rw[hkv,hk3] at hs1 hs2
         have HS1:=zh (show (ss++[(zAR a.val).1]).length=cntK cK (j+1) true by rw[hs1,List.length_append,HSL.out];rfl)
         have HS2:=zh (show ns.length=cntK cK (j+1) false by rw[hs2,HNL.out];rfl)
         have HGS:=zh hgo
         have hssl:ss.length<=1000:=by have:=cntK_all cK j;have:=HSL.out;omega
         have HTZ:=zh (asTxt_size a.val ha64 hasz)
         have HA64:=zh ha64
         clear hgo hkv hcs hk1 hk3 hs1 hs2 ha64
         go_wp2_with(first|(go_at_call 40;refine mB (zB8 a.val HA64.out _ (HP.out.below (HB2.out.trans ((show Below wr.heap.size wr _ from bel).mono HB2.out.size)) (Nat.le_refl _))) ?_;intro l2 q2)|(at_builtin;refine wpList_append_own _ rfl _ _ 175 rfl WB.heap.size 9 iS _ 1 16 Tryz.underlying175 hiS hz0S hz1S hz2S rfl (by decide) _ _ _ rfl (own_below HG.out.os bel) _ 1 1 [.string (zAR a.val).1] rfl rfl ?_ ?_ ?_ ?_ ?_ ?_))
         ·first|exact fun i u hu=>zAe (by simp) i u hu|exact fun i u hu=>hu
         ·intro u hu;simp only[List.mem_cons,List.not_mem_nil,or_false] at hu;subst hu;rfl
         ·simp only[maxLen];omega
         ·omega
         ·have h1:=HG.out.bel.size
          have:=HWBS.out
          simp
          omega
         ·intro v' w3 hown' hgrow hnil
          have R:=GivRel.addS HG.out bel (show w3.ownsRow WB.heap.size 9 1 v' (ss.length+1) (ss.map Value.string++[.string (zAR a.val).1]) from by simpa using hown') hgrow
          have hbx:=GivRel.boxS HG.out bel hgrow
          rw[HWBS.out] at R hbx
          obtain⟨A3,cp3,rfl⟩:=zAK hown'
          have HG':=zh R
          have g0:w3.cell? ⟨w.heap.size+1+l.length+1,0,none⟩=some sv:=by rw[Lib.cell_of_heap hbx];rfl
          have gf0:w3.frozen? ⟨w.heap.size+1+l.length+1,0,none⟩=false:=Lib.frozen_of_heap hbx 0
          have gl:=World.block_lt_of_cell? w3 _ g0
          clear hnil hown' hgrow R hbx HG c0 c1 c2 c3 c4 c5 c6 c7 c8 c9 c10
          go_wp2
          go_roundw
          case rel=>exact⟨j+1,_,_,_,_,by omega,by go_num,HG'.out,HGS.out,HS1.out,HS2.out,fun t ht=>by (rcases List.mem_append.1 ht with ht|ht;(exact HSS.out t ht);(simp only[List.mem_cons,List.not_mem_nil,or_false] at ht;subst ht;exact HTZ.out)),HNS.out⟩
          case measure=>simp[intOf];omega
        ·rw[hkv,if_neg hk1] at hgo
         have hk2:(((cK[j]'hkl).toNat:Int)==115)=false:=by simp;omega
         have hk3:(cK[j]'hkl==115)=false:=by simpa [<- UInt8.toNat_inj] using hk1
         have hs1:=hcs true
         have hs2:=hcs false
         rw[hkv,hk3] at hs1 hs2
         have HA63:=zh (asNum_63 a.val ha64)
         clear hkv hcs hk1 hk3
         obtain⟨x0,hx0⟩:∃ x0,(zA5 a.val).1=x0:=⟨_,rfl⟩
         obtain⟨cd,hcd⟩:∃ cd,(zA5 a.val).2=cd:=⟨_,rfl⟩
         rw[hx0] at HA63
         rw[hx0,hcd] at hgo
         have HNR:=zh (fun W=>(show Rt 35 #[(vG (a.val))] W (.tuple #[.int .i64 x0,.int .i64 cd]) by have:=zAG a.val W;rw[hx0,hcd] at this;exact this))
         clear hx0 hcd
         by_cases hc0:cd=0
         ·subst hc0
          rw[if_neg (by simp)] at hgo
          have HW64:=zh (whole_is64 x0 HA63.out)
          obtain⟨y0,hy0⟩:∃ y0,(zAL x0).1=y0:=⟨_,rfl⟩
          obtain⟨k0',hk0'⟩:∃ k0',(zAL x0).2=k0':=⟨_,rfl⟩
          rw[hy0] at HW64
          rw[hy0,hk0'] at hgo
          have HWR2:=zh (fun W=>(show Calls Tryz.prog 134 #[.int .i64 x0] W fun e w'=>e=.returned (.tuple #[.int .i64 y0,.bool k0'])/\W=w' by have:=zAs x0 (by have:=HA63.out;unfold In63 at this;omega) (by have:=HA63.out;unfold In63 at this;omega) W;rw[hy0,hk0'] at this;exact this))
          clear hy0 hk0'
          cases k0'
          ·rw[if_pos rfl] at hgo
           have HRR:=zh hgo.symm
           clear hgo hs1 hs2
           obtain⟨l0,q0,hwe⟩:=zA0 HBZ.out
           subst hwe
           simp only[zAU,World.size_alloc] at hk0 hlt0
           clear c0 c1 c2 c3 c4 c5 c6 c7 c8 c9 c10 hbr
           have c0:=HCW.out 0 _ rfl
           have c1:=HCW.out 1 _ rfl
           have c2:=HCW.out 2 _ rfl
           have c3:=HCW.out 3 _ rfl
           have c4:=HCW.out 4 _ rfl
           have c5:=HCW.out 5 _ rfl
           have c6:=HCW.out 6 _ rfl
           have c7:=HCW.out 7 _ rfl
           have c8:=HCW.out 8 _ rfl
           have c9:=HCW.out 9 _ rfl
           have c10:=HCW.out 10 _ rfl
           simp only[<- Nat.add_assoc,Nat.add_zero] at c0 c1 c2 c3 c4 c5 c6 c7 c8 c9 c10
           have hbw:=cltK c0
           go_wp2_with(first|(go_at_call 35;refine mB (HNR.out _) ?_;intro l2 q2)|(go_at_call 134;refine(HWR2.out _).mono ?_;rintro e w4 ⟨rfl,hb⟩;subst hb)|(go_at_call 21;refine mB (zA3 _ _) ?_;intro l3 q3))
           all_goals go_returns
           all_goals exact⟨by rw[HRR.out],bel⟩
          ·rw[if_neg (by simp)] at hgo
           have HS1:=zh (show ss.length=cntK cK (j+1) true by rw[hs1,HSL.out];rfl)
           have HS2:=zh (show (ns++[y0]).length=cntK cK (j+1) false by rw[hs2,List.length_append,HNL.out];rfl)
           have HGS:=zh hgo
           have hnsl:ns.length<=1000:=by have:cntK cK j false<=j:=(by unfold cntK;exact Nat.le_trans (List.length_filter_le _ _) (by rw[List.length_take];omega));have:=HNL.out;omega
           clear hgo hs1 hs2
           go_wp2_with(first|(go_at_call 35;refine mB (HNR.out _) ?_;intro l2 q2)|(go_at_call 134;refine(HWR2.out _).mono ?_;rintro e w4 ⟨rfl,hb⟩;subst hb)|(at_builtin;refine wpList_append_own _ rfl _ _ 207 rfl WB.heap.size 3 iI _ 1 8 Tryz.underlying207 hiI hz0I hz1I hz2I rfl (by decide) _ _ _ rfl (own_below HG.out.on bel) _ 1 1 [.int .i64 y0] rfl rfl ?_ ?_ ?_ ?_ ?_ ?_))
           ·first|exact fun i u hu=>zAe (by simp) i u hu|exact fun i u hu=>hu
           ·intro u hu;simp only[List.mem_cons,List.not_mem_nil,or_false] at hu;subst hu;rfl
           ·simp only[maxLen];omega
           ·omega
           ·have h1:=HG.out.bel.size
            have:=HWBS.out
            simp
            omega
           ·intro v' w3 hown' hgrow hnil
            have R:=GivRel.addN HG.out bel (show w3.ownsRow WB.heap.size 3 1 v' (ns.length+1) ((ns.map fun n=>Value.int .i64 n)++[.int .i64 y0]) from by simpa using hown') hgrow
            have hbx:=GivRel.boxN HG.out bel hgrow
            rw[HWBS.out] at R hbx
            obtain⟨A3,cp3,rfl⟩:=zAK hown'
            have HG':=zh R
            have g1:w3.cell? ⟨w.heap.size+1+l.length+1,1,none⟩=some nv:=by rw[Lib.cell_of_heap hbx];rfl
            have gf1:w3.frozen? ⟨w.heap.size+1+l.length+1,1,none⟩=false:=Lib.frozen_of_heap hbx 1
            have gl:=World.block_lt_of_cell? w3 _ g1
            clear hnil hown' hgrow R hbx HG c0 c1 c2 c3 c4 c5 c6 c7 c8 c9 c10
            go_wp2
            go_roundw
            case rel=>exact⟨j+1,_,_,_,_,by omega,by go_num,HG'.out,HGS.out,HS1.out,HS2.out,HSS.out,fun t ht=>by (rcases List.mem_append.1 ht with ht|ht;(exact HNS.out t ht);(simp only[List.mem_cons,List.not_mem_nil,or_false] at ht;subst ht;exact HW64.out))⟩
            case measure=>simp[intOf];omega
         ·rw[if_pos hc0] at hgo
          have HRR:=zh hgo.symm
          have hcd':(cd != 0)=true:=by simpa using hc0
          clear hgo hs1 hs2 hc0
          obtain⟨l0,q0,hwe⟩:=zA0 HBZ.out
          subst hwe
          simp only[zAU,World.size_alloc] at hk0 hlt0
          clear c0 c1 c2 c3 c4 c5 c6 c7 c8 c9 c10 hbr
          have c0:=HCW.out 0 _ rfl
          have c1:=HCW.out 1 _ rfl
          have c2:=HCW.out 2 _ rfl
          have c3:=HCW.out 3 _ rfl
          have c4:=HCW.out 4 _ rfl
          have c5:=HCW.out 5 _ rfl
          have c6:=HCW.out 6 _ rfl
          have c7:=HCW.out 7 _ rfl
          have c8:=HCW.out 8 _ rfl
          have c9:=HCW.out 9 _ rfl
          have c10:=HCW.out 10 _ rfl
          simp only[<- Nat.add_assoc,Nat.add_zero] at c0 c1 c2 c3 c4 c5 c6 c7 c8 c9 c10
          have hbw:=cltK c0
          go_wp2_with(first|(go_at_call 35;refine mB (HNR.out _) ?_;intro l2 q2)|(go_at_call 21;refine mB (zA3 _ _) ?_;intro l3 q3))
          all_goals go_returns
          all_goals exact⟨by rw[HRR.out],bel⟩
       ·obtain rfl:j=n:=by omega
        have hgo:=HGO.out
        rw[List.drop_of_length_le (by omega)] at hgo
        have htn:((tx.toNat:Nat):Int)=tx:=Int.toNat_of_nonneg (by omega)
        have hD:=text_do HT.out HFN.out HK.out tx.toNat (by omega) ss ns j HBT.out HSL.out HNL.out HSS.out HNS.out
        rw[show textDo s tx.toNat ss ns=R from hgo] at hD
        have hbf:Below (more (w.alloc zObj) l q7).heap.size (more (w.alloc zObj) l q7) wr:=(show Below (more (w.alloc zObj) l q7).heap.size (more (w.alloc zObj) l q7) WB from by rw[HWB.out];exact zBx (Below.refl _ _) _ (Nat.le_refl _)).trans (HG.out.bel.mono (by have:=HWBS.out;simp;omega))
        have hmx:=HM.out.below HB2.out
        have k2:=cell_below K2.out HG.out.bel
        have HSR:=zh (strRow_of HG.out.os)
        have HIR:=zh (intRow_of HG.out.on)
        rcases hD with ⟨k,rfl,rfl,rfl,hk,hc⟩|⟨k,p,rfl,rfl,rfl,hk,hc⟩
        ·have hcc:=hc wr sv nv hbf hmx HSR.out HIR.out
         rw[htn] at hcc
         have HC:=zh hcc
         clear hc hcc htn hgo hbf hmx
         obtain⟨l0,q0,hwe⟩:=zA0 HBZ.out
         subst hwe
         go_wp2_with(with_reducible refine Calls.mono HC.out ?_;rintro e w5 ⟨rfl,hb⟩;obtain⟨l8,q8,rfl⟩:=zA0 hb;clear hb)
         all_goals go_returns
         all_goals exact⟨rfl,bel⟩
        ·have hcc:=hc wr sv nv hbf hmx HSR.out HIR.out
         rw[htn] at hcc
         have HC:=zh hcc
         clear hc hcc htn hgo hbf hmx
         obtain⟨l0,q0,hwe⟩:=zA0 HBZ.out
         subst hwe
         go_wp2_with(with_reducible refine Calls.mono HC.out ?_;rintro e w5 ⟨rfl,hb⟩;obtain⟨l8,q8,rfl⟩:=zA0 hb;clear hb)
         all_goals go_returns
         all_goals exact⟨rfl,bel⟩
end Go.Proofs.YtppghgnhlgoagaaGreatDoor
