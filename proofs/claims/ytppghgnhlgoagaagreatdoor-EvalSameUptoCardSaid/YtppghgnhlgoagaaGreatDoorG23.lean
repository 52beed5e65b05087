/- Parts. -/
import Derived.Test.YtppghgnhlgoagaaGreatDoorG22
set_option linter.all false
set_option maxRecDepth 100000
set_option maxHeartbeats 4000000
namespace Go.Proofs.YtppghgnhlgoagaaGreatDoor
open Go Go.RowKit
open Go.Lib renaming hid->zh
def zCG (ok:Nat->Bool) (s:ByteArray) (xs:List Arg) (r:V):V:=if (List.range xs.length).all ok&&takesAll s (xs.map Arg.many) then r else errG 8
def funL (pb pn:Nat):Obj:=.cells #[.func (.func 98) #[] #[.pointer (some ⟨pb,0,none⟩),.pointer (some ⟨pn,0,none⟩)],.func (.func 99) #[] #[.pointer (some ⟨pb,0,none⟩),.pointer (some ⟨pn,0,none⟩)]] 129
def funZ:Obj:=.cells #[.nilFunc,.nilFunc] 129
theorem ent_lay {s:ByteArray} {fn fn1:Fn} {first cap first1 cap1:Array Value} {w:World} {i:Nat} (h:EntE w s (.agg #[.func fn first cap,.func fn1 first1 cap1])) (hl:layOf s=some i) :
  ∃ pb pn,fn=.func 98/\first= #[]/\cap= #[.pointer (some ⟨pb,0,none⟩),.pointer (some ⟨pn,0,none⟩)]/\fn1=.func 99/\first1= #[]/\cap1= #[.pointer (some ⟨pb,0,none⟩),.pointer (some ⟨pn,0,none⟩)] /\
    w.cell? ⟨pb,1,none⟩=some (.func (.func (layFn i 1)) #[] #[])/\w.cell? ⟨pb,2,none⟩=some (.func (.func (layFn i 2)) #[] #[])/\w.cell? ⟨pn,0,none⟩=some (.string s):=by
 rcases h with ⟨x,y,d,e1,_⟩|⟨j,e1,pb,pn,ev,h0,h1,h2,h3⟩
 ·rw[own_lay s e1] at hl;cases hl
 ·rw[e1] at hl
  cases hl
  injection ev with ev
  cases ev
  exact⟨pb,pn,rfl,rfl,rfl,rfl,rfl,rfl,h1,h2,h3⟩
theorem layFn_in (i j:Nat) (args:Array Value) (w:World):Sem.run Tryz.prog (callFunc (layFn i j) args) w=.ok (.enter (layFn i j) args) w:=by
 unfold layFn
 repeat' split
 all_goals rfl
theorem made2 (pb pn i:Nat) (s:ByteArray) (A:Option Addr) (n c:Nat) (tx:Int) (r:V) (w:World) (h1:w.cell? ⟨pb,2,none⟩=some (.func (.func (layFn i 2)) #[] #[])) (h2:w.cell? ⟨pn,0,none⟩=some (.string s))
  (hdo:∀ w',Below w.heap.size w w'->Calls Tryz.prog (layFn i 2) #[.string s,.slice A n c,.int .i64 tx] w' fun e w''=>e=.returned (vG r)/\Below w'.heap.size w' w'') :
  Rt 99 #[.slice A n c,.int .i64 tx,.pointer (some ⟨pb,0,none⟩),.pointer (some ⟨pn,0,none⟩)] w (vG r):=by
 have hk:=layFn_in i 2
 have HD:=zh hdo
 have hb1:=World.block_lt_of_cell? w _ h1
 have hb2:=World.block_lt_of_cell? w _ h2
 obtain⟨k,hkk⟩:∃ k,layFn i 2=k:=⟨_,rfl⟩
 rw[hkk] at hk h1 HD
 clear hdo hkk
 go_enter Tryz.func99,Tryz.ntmps99
 go_wp2_with(with_reducible refine Calls.mono (HD.out _ bel) ?_;rintro e w1 ⟨rfl,hb⟩;obtain⟨l,q,rfl⟩:=zA0 hb;clear hb)
 all_goals go_returns
 all_goals exact⟨rfl,bel⟩
theorem table_callOwnF (b:Nat) (tx:Int) (s:ByteArray) (x y:Int) (d:Doer) (ho:zAz s=some (x,y,d)) (ok:Nat->Bool) (xs:List Arg) (A:Option Addr) (n c B:Nat) (w:World) (h:zCF w b) (hr:Reads w B 11 A n (zBC xs)) (hap:Apart b A n) (hm:n<=1000000000000)
  (hmay:∀ j a,xs[j]? =some a->∀ w',Turn b w w'->Rt 45 #[a.agg] w' (.bool (ok j))) (r:V)
  (hdo:∀ w' pd f,Turn b w w'->w'.cell? ⟨pd,0,none⟩=some f->DoOK w' f d->between x y n=true->(∀ j,j<n->ok j=true)->Rt 150 #[.slice A n c,.int .i64 tx,.pointer (some ⟨pd,0,none⟩)] w' (vG r)) :
  Calls Tryz.prog 26 #[.pointer (some ⟨b,0,none⟩),.string s,.slice A n c,.int .i64 tx] w fun e w'=>e=.returned (vG (zCG ok s xs r))/\Ready w' b/\Turn b w w':=by
 have hD:=zh (show D1 50 s=true by simp[D1,own_known s ho])
 have hbl:=h.lt
 have hlen:xs.length=n:=by
  have:=hr.1
  rw[zAo] at this
  omega
 obtain⟨cs,hcs⟩:∃ cs,cs=(xs.map Arg.many).map Value.bool:=⟨_,rfl⟩
 have hcl:cs.length=n:=by rw[hcs];simp[hlen]
 have hcx:∀ (j:Nat) (x:Arg),xs[j]? =some x->cs[j]? =some (.bool x.many):=fun j x hx=>by rw[hcs,List.getElem?_map,List.getElem?_map,hx];rfl
 have HCX:=zh hcx
 have HCS:=zh hcs
 obtain⟨okN,hok0,hokS,hokn⟩:∃ okN:Nat->Bool,okN 0=true/\(∀ j,okN (j+1)=(okN j&&ok j))/\okN n=(List.range xs.length).all ok:=⟨fun j=>(List.range j).all ok,rfl,fun j=>by simp only;rw[List.range_succ,List.all_append];simp,by rw[hlen]⟩
 have HOK:=zh hokS
 have HON:=zh hokn
 have HM:=zh hmay
 have HR0:=zh hr
 have HDO:=zh hdo
 have hTO:=zh (h.below (show Below w.heap.size w (w.alloc zeroV) from bel))
 clear hcx hokS hokn hcs hmay hdo hr h
 obtain⟨i0,hi,hz0,hz1,hz2⟩:=info_parts info_B
 go_enter Tryz.func26,Tryz.ntmps26
 go_wp2_with(first|(go_at_call 44;refine(table_all b _ hTO.out).mono ?_;rintro e w1 ⟨⟨m,rfl,hM⟩,hRD,hTT⟩;obtain⟨wB,l,q,hsz,hTB,rfl⟩:=turn_split hbl hTT;have HMI:=zh hM;have HRY:=zh hRD;have HTB:=zh hTB;clear hM hRD hTT hTB)|(at_lookup;refine wpList_lookI HMI.out _ _ rfl rfl rfl _ rfl ?_ ?_))
 ·intro fn first cap fn1 first1 cap1 hv
  obtain⟨pl,pm,pd,f,rfl,rfl,rfl,rfl,rfl,rfl,h1,h2,h3,h4⟩:=ent_own hv.out.1 ho
  have HR:=zh (HR0.out.turn hap HTB.out)
  have HMA':=zh (fun a j ha w' (hb:Below wB.heap.size wB w')=>HM.out a j ha w' (HTB.out.trans (.of_below hb)))
  have HDO':=zh (fun w' pd f (hb:Below wB.heap.size wB w')=>HDO.out w' pd f (HTB.out.trans (.of_below hb)))
  unfold zeroV at h1 h2 h3 h4
  clear hv HM HDO
  go_wp2
  go_loopw [23,10,11] (fun t o v wr=>∃ j:Nat,j<=n/\t=.int .i64 j/\o=.bool (okN j)/\zAW ((more (wB.alloc zeroV) l q).alloc (funO pl pm pd)) wr 4 1 v j (cs.take j)) (fun t _ _ _=>n-(intOf t).toNat)
  case atStart=>exact⟨0,Nat.zero_le _,rfl,by rw[hok0],Below.refl _ _,World.ownsRow_nil _ _ _ _⟩
  case round =>
   obtain⟨j,hj,rfl,rfl,hR⟩:=hrel
   have hw0:Below wB.heap.size wB ((more (wB.alloc zeroV) l q).alloc (funO pl pm pd)):=bel
   have hwr:Below wB.heap.size wB wr:=hw0.trans (hR.1.mono hw0.size)
   have hws:=hwr.size
   by_cases hlt:j<n
   ·obtain⟨a,ha⟩:∃ a,xs[j]? =some a:=⟨_,List.getElem?_eq_getElem (show j<xs.length by omega)⟩
    obtain⟨bk,off,rfl,_,hc⟩:=HR.out.2 (by omega)
    have hcell:∀ i u,a.cells[i]? =some u->wr.cell? ⟨bk,off+(j*11+i),none⟩=some u:=fun i u hu=>by
     have h1:=hc _ u (zAb xs j a ha i u hu)
     exact(hwr.cell (p:=⟨bk,_,none⟩) (World.block_lt_of_cell? wB _ h1)).trans h1
    have c0:=hcell 0 _ rfl
    have c1:=hcell 1 _ rfl
    have c2:=hcell 2 _ rfl
    have c3:=hcell 3 _ rfl
    have c4:=hcell 4 _ rfl
    have c5:=hcell 5 _ rfl
    have c6:=hcell 6 _ rfl
    have c7:=hcell 7 _ rfl
    have c8:=hcell 8 _ rfl
    have c9:=hcell 9 _ rfl
    have c10:=hcell 10 _ rfl
    simp only[<- Nat.add_assoc,Nat.add_zero] at c0 c1 c2 c3 c4 c5 c6 c7 c8 c9 c10
    have HG:=zh hR
    have HAJ:=zh ha
    have HMH:=zh (HMA'.out j a ha)
    clear hcell hR hc ha
    clear h1 h2 h3 h4 hw0
    have hoj:=HOK.out j
    cases hokj:okN j
    ·rw[hokj] at hoj
     have HJ:=zh hoj
     clear hokj hoj
     go_wp2_with(at_builtin;refine wpList_append_own _ rfl _ _ 132 rfl ((more (wB.alloc zeroV) l q).alloc (funO pl pm pd)).heap.size 4 i0 _ 1 1 Tryz.underlying132 hi hz0 hz1 hz2 rfl (by decide) _ _ _ rfl (own_below HG.out.2 bel) _ 1 1 [.bool a.many] rfl rfl ?_ ?_ ?_ ?_ ?_ ?_)
     ·first|exact fun i u hu=>zAe (by simp) i u hu|exact fun i u hu=>hu
     ·intro u hu
      simp only[List.mem_cons,List.not_mem_nil,or_false] at hu
      subst hu
      rfl
     ·simp only[maxLen];omega
     ·omega
     ·have h1:=HG.out.1.size
      simp at h1 ⊢
      omega
     ·intro v' w3 hown' hgrow _
      have R:=zAW.step HG.out bel (show w3.ownsRow ((more (wB.alloc zeroV) l q).alloc (funO pl pm pd)).heap.size 4 1 v' (j+1) (cs.take j++[.bool a.many]) from by simpa [hsz] using hown') hgrow
      rw[<- zAn (HCX.out j a HAJ.out)] at R
      have HG':=zh R
      clear hown' hgrow R HG c0 c1 c2 c3 c4 c5 c6 c7 c8 c9 c10 hwr
      go_wp2
      go_roundw
      case rel=>exact⟨j+1,by omega,by go_num,by rw[HJ.out];rfl,HG'.out⟩
      case measure=>simp[intOf];omega
    ·rw[hokj] at hoj
     have HJ:=zh hoj
     clear hokj hoj
     go_wp2_with(first|(go_at_call 45;refine mB (HMH.out _ bel) ?_;intro l2 q2)|(at_builtin;refine wpList_append_own _ rfl _ _ 132 rfl ((more (wB.alloc zeroV) l q).alloc (funO pl pm pd)).heap.size 4 i0 _ 1 1 Tryz.underlying132 hi hz0 hz1 hz2 rfl (by decide) _ _ _ rfl (own_below HG.out.2 bel) _ 1 1 [.bool a.many] rfl rfl ?_ ?_ ?_ ?_ ?_ ?_))
     ·first|exact fun i u hu=>zAe (by simp) i u hu|exact fun i u hu=>hu
     ·intro u hu
      simp only[List.mem_cons,List.not_mem_nil,or_false] at hu
      subst hu
      rfl
     ·simp only[maxLen];omega
     ·omega
     ·have h1:=HG.out.1.size
      simp at h1 ⊢
      omega
     ·intro v' w3 hown' hgrow _
      have R:=zAW.step HG.out bel (show w3.ownsRow ((more (wB.alloc zeroV) l q).alloc (funO pl pm pd)).heap.size 4 1 v' (j+1) (cs.take j++[.bool a.many]) from by simpa [hsz] using hown') hgrow
      rw[<- zAn (HCX.out j a HAJ.out)] at R
      have HG':=zh R
      clear hown' hgrow R HG c0 c1 c2 c3 c4 c5 c6 c7 c8 c9 c10 hwr
      go_wp2
      go_roundw
      case rel=>exact⟨j+1,by omega,by go_num,by rw[HJ.out];simp,HG'.out⟩
      case measure=>simp[intOf];omega
   ·obtain rfl:j=n:=by omega
    rw[List.take_of_length_le (by omega)] at hR
    obtain⟨hB,hO⟩:=hR
    have hkw:Keeps (more (wB.alloc zeroV) l q) wr:=Keeps.trans kps (zAr hB)
    have h1':=hkw.cell _ _ _ h1
    have h2':=hkw.cell _ _ _ h2
    have h3':=hkw.cell _ _ _ h3
    have h4':=h4.keeps hkw
    have HPL:=zh h1'
    have HPM:=zh h2'
    have HPD:=zh h3'
    have HOK':=zh h4'
    have hpd:=World.block_lt_of_cell? _ _ h3'
    obtain⟨xsB,hxb⟩:∃ xsB,xsB=xs.map Arg.many:=⟨_,rfl⟩
    rw[HCS.out,<-hxb] at hO
    obtain⟨A',c',rfl⟩:=own_slice hO
    have HRD:=zh (Reads.zB5 hO)
    have hbn:xsB.length=j:=by rw[hxb,List.length_map,hlen]
    have htl:takesAll s (xs.map Arg.many)=(between x y j&& !zAm xsB):=by rw[<- hxb];simp[takesAll,ho,hbn]
    obtain⟨l2,q2,rfl⟩:=zA0 hB
    clear h1 h2 h3 h4 h1' h2' h4' hkw hO hB
    unfold zeroV funO at *
    cases hokj:okN j
    ·have e:zCG ok s xs r=errG 8:=by
      have h1:=HON.out
      rw[hokj] at h1
      simp[zCG,<-h1]
     have E:=zh e
     clear e HDO' hokj htl
     go_wp2_with(go_at_call 21;refine mB (zA3 _ _) ?_;intro l3 q3)
     all_goals(simp only[<- hsz];go_returns)
     all_goals exact⟨by rw[E.out],(ready_end HRY.out).below bel,HTB.out.trans (.of_below bel)⟩
    ·have h1:=HON.out
     rw[hokj] at h1
     obtain⟨tk,htk⟩:∃ tk,(between x y j&& !zAm xsB)=tk:=⟨_,rfl⟩
     have HTK:=zh htk
     rw[htk] at htl
     cases tk
     ·have e:zCG ok s xs r=errG 8:=by simp[zCG,htl]
      have E:=zh e
      clear e HDO' h1 htl htk hokj
      go_wp2_with(first|(go_at_call 21;refine mB (zA3 _ _) ?_;intro l3 q3)|(go_at_call 149;refine(singles1 pl pm x y A' j c' xsB _ _ (HPL.out) (HPM.out) HRD.out (by omega)).mono ?_;rintro e w4 ⟨rfl,hb⟩;rw[HTK.out];obtain⟨l4,q4,rfl⟩:=zA0 hb;clear hb))
      all_goals(simp only[<- hsz];go_returns)
      all_goals exact⟨by rw[E.out],(ready_end HRY.out).below bel,HTB.out.trans (.of_below bel)⟩
     ·have e:zCG ok s xs r=r:=by simp[zCG,htl,<-h1]
      have E:=zh e
      have hbt:between x y j=true:=by
       cases h2:between x y j
       ·rw[h2] at htk;cases htk
       ·rfl
      have hall:∀ k,k<j->ok k=true:=fun k hk=>List.all_eq_true.1 h1.symm k (List.mem_range.2 (by omega))
      have HDC:=zh (fun w' pd f h2 h3 h4=>HDO'.out w' pd f h2 h3 h4 hbt hall)
      clear e HDO' h1 htl hbt htk hokj hall
      go_wp2_with(first|(go_at_call 149;refine(singles1 pl pm x y A' j c' xsB _ _ (HPL.out) (HPM.out) HRD.out (by omega)).mono ?_;rintro e w4 ⟨rfl,hb⟩;rw[HTK.out];obtain⟨l4,q4,rfl⟩:=zA0 hb;clear hb)|(go_at_call 150;refine Calls.mono (HDC.out _ pd f ?_ ?_ ?_) ?_;(exact bel);(rw[<- zAO (l:=l2) (n:=q2)];exact(keeps_more (keeps_refl _) _ _).cell _ _ _ HPD.out);(rw[<- zAO (l:=l2) (n:=q2)];exact HOK'.out.keeps (keeps_more (keeps_refl _) _ _));rintro e w5 ⟨rfl,hb⟩;obtain⟨l5,q5,rfl⟩:=zA0 hb;clear hb))
      all_goals(simp only[<- hsz];go_returns)
      all_goals exact⟨by rw[E.out],(ready_end HRY.out).below bel,HTB.out.trans (.of_below bel)⟩
 ·intro hv
  have h1:=hv.out
  rw[hD.out] at h1
  cases h1
theorem table_callLayF (b:Nat) (tx:Int) (s:ByteArray) (i:Nat) (hl:layOf s=some i) (ok:Nat->Bool) (xs:List Arg) (A:Option Addr) (n c B:Nat) (w:World) (h:zCF w b) (hr:Reads w B 11 A n (zBC xs)) (hap:Apart b A n) (hm:n<=1000000000000)
  (hmay:∀ j a,xs[j]? =some a->∀ w',Turn b w w'->Rt 45 #[a.agg] w' (.bool (ok j))) (r:V)
  (hdo:∀ w',Turn b w w'->Calls Tryz.prog (layFn i 2) #[.string s,.slice A n c,.int .i64 tx] w' fun e w''=>e=.returned (vG r)/\Below w'.heap.size w' w'') :
  Calls Tryz.prog 26 #[.pointer (some ⟨b,0,none⟩),.string s,.slice A n c,.int .i64 tx] w fun e w'=>e=.returned (vG (zCG ok s xs r))/\Ready w' b/\Turn b w w':=by
 have hD:=zh (show D1 50 s=true by simp[D1,lay_known s hl])
 have hno:zAz s=none:=by
  cases ho:zAz s with
  | none=>rfl
  | some q=>rw[own_lay s ho] at hl;cases hl
 have hbl:=h.lt
 have hlen:xs.length=n:=by
  have:=hr.1
  rw[zAo] at this
  omega
 obtain⟨cs,hcs⟩:∃ cs,cs=(xs.map Arg.many).map Value.bool:=⟨_,rfl⟩
 have hcl:cs.length=n:=by rw[hcs];simp[hlen]
 have hcx:∀ (j:Nat) (x:Arg),xs[j]? =some x->cs[j]? =some (.bool x.many):=fun j x hx=>by rw[hcs,List.getElem?_map,List.getElem?_map,hx];rfl
 have HCX:=zh hcx
 have HCS:=zh hcs
 obtain⟨okN,hok0,hokS,hokn⟩:∃ okN:Nat->Bool,okN 0=true/\(∀ j,okN (j+1)=(okN j&&ok j))/\okN n=(List.range xs.length).all ok:=⟨fun j=>(List.range j).all ok,rfl,fun j=>by simp only;rw[List.range_succ,List.all_append];simp,by rw[hlen]⟩
 have HOK:=zh hokS
 have HON:=zh hokn
 have HM:=zh hmay
 have HR0:=zh hr
 have HDO:=zh hdo
 have hTO:=zh (h.below (show Below w.heap.size w (w.alloc zeroV) from bel))
 clear hcx hokS hokn hcs hmay hdo hr h
 obtain⟨i0,hi,hz0,hz1,hz2⟩:=info_parts info_B
 go_enter Tryz.func26,Tryz.ntmps26
 go_wp2_with(first|(go_at_call 44;refine(table_all b _ hTO.out).mono ?_;rintro e w1 ⟨⟨m,rfl,hM⟩,hRD,hTT⟩;obtain⟨wB,l,q,hsz,hTB,rfl⟩:=turn_split hbl hTT;have HMI:=zh hM;have HRY:=zh hRD;have HTB:=zh hTB;clear hM hRD hTT hTB)|(at_lookup;refine wpList_lookI HMI.out _ _ rfl rfl rfl _ rfl ?_ ?_))
 ·intro fn first cap fn1 first1 cap1 hv
  obtain⟨pb,pn,rfl,rfl,rfl,rfl,rfl,rfl,h1,h2,h3⟩:=ent_lay hv.out.1 hl
  have HR:=zh (HR0.out.turn hap HTB.out)
  have HMA':=zh (fun a j ha w' (hb:Below wB.heap.size wB w')=>HM.out a j ha w' (HTB.out.trans (.of_below hb)))
  have HDO':=zh (fun w' (hb:Below wB.heap.size wB w')=>HDO.out w' (HTB.out.trans (.of_below hb)))
  unfold zeroV at h1 h2 h3
  clear hv HM HDO
  go_wp2
  go_loopw [23,10,11] (fun t o v wr=>∃ j:Nat,j<=n/\t=.int .i64 j/\o=.bool (okN j)/\zAW ((more (wB.alloc zeroV) l q).alloc (funL pb pn)) wr 4 1 v j (cs.take j)) (fun t _ _ _=>n-(intOf t).toNat)
  case atStart=>exact⟨0,Nat.zero_le _,rfl,by rw[hok0],Below.refl _ _,World.ownsRow_nil _ _ _ _⟩
  case round =>
   obtain⟨j,hj,rfl,rfl,hR⟩:=hrel
   have hw0:Below wB.heap.size wB ((more (wB.alloc zeroV) l q).alloc (funL pb pn)):=bel
   have hwr:Below wB.heap.size wB wr:=hw0.trans (hR.1.mono hw0.size)
   have hws:=hwr.size
   by_cases hlt:j<n
   ·obtain⟨a,ha⟩:∃ a,xs[j]? =some a:=⟨_,List.getElem?_eq_getElem (show j<xs.length by omega)⟩
    obtain⟨bk,off,rfl,_,hc⟩:=HR.out.2 (by omega)
    have hcell:∀ i u,a.cells[i]? =some u->wr.cell? ⟨bk,off+(j*11+i),none⟩=some u:=fun i u hu=>by
     have h1:=hc _ u (zAb xs j a ha i u hu)
     exact(hwr.cell (p:=⟨bk,_,none⟩) (World.block_lt_of_cell? wB _ h1)).trans h1
    have c0:=hcell 0 _ rfl
    have c1:=hcell 1 _ rfl
    have c2:=hcell 2 _ rfl
    have c3:=hcell 3 _ rfl
    have c4:=hcell 4 _ rfl
    have c5:=hcell 5 _ rfl
    have c6:=hcell 6 _ rfl
    have c7:=hcell 7 _ rfl
    have c8:=hcell 8 _ rfl
    have c9:=hcell 9 _ rfl
    have c10:=hcell 10 _ rfl
    simp only[<- Nat.add_assoc,Nat.add_zero] at c0 c1 c2 c3 c4 c5 c6 c7 c8 c9 c10
    have HG:=zh hR
    have HAJ:=zh ha
    have HMH:=zh (HMA'.out j a ha)
    clear hcell hR hc ha
    clear h1 h2 h3 hw0
    have hoj:=HOK.out j
    cases hokj:okN j
    ·rw[hokj] at hoj
     have HJ:=zh hoj
     clear hokj hoj
     go_wp2_with(at_builtin;refine wpList_append_own _ rfl _ _ 132 rfl ((more (wB.alloc zeroV) l q).alloc (funL pb pn)).heap.size 4 i0 _ 1 1 Tryz.underlying132 hi hz0 hz1 hz2 rfl (by decide) _ _ _ rfl (own_below HG.out.2 bel) _ 1 1 [.bool a.many] rfl rfl ?_ ?_ ?_ ?_ ?_ ?_)
     ·first|exact fun i u hu=>zAe (by simp) i u hu|exact fun i u hu=>hu
     ·intro u hu
      simp only[List.mem_cons,List.not_mem_nil,or_false] at hu
      subst hu
      rfl
     ·simp only[maxLen];omega
     ·omega
     ·have h1:=HG.out.1.size
      simp at h1 ⊢
      omega
     ·intro v' w3 hown' hgrow _
      have R:=zAW.step HG.out bel (show w3.ownsRow ((more (wB.alloc zeroV) l q).alloc (funL pb pn)).heap.size 4 1 v' (j+1) (cs.take j++[.bool a.many]) from by simpa [hsz] using hown') hgrow
      rw[<- zAn (HCX.out j a HAJ.out)] at R
      have HG':=zh R
      clear hown' hgrow R HG c0 c1 c2 c3 c4 c5 c6 c7 c8 c9 c10 hwr
      go_wp2
      go_roundw
      case rel=>exact⟨j+1,by omega,by go_num,by rw[HJ.out];rfl,HG'.out⟩
      case measure=>simp[intOf];omega
    ·rw[hokj] at hoj
     have HJ:=zh hoj
     clear hokj hoj
     go_wp2_with(first|(go_at_call 45;refine mB (HMH.out _ bel) ?_;intro l2 q2)|(at_builtin;refine wpList_append_own _ rfl _ _ 132 rfl ((more (wB.alloc zeroV) l q).alloc (funL pb pn)).heap.size 4 i0 _ 1 1 Tryz.underlying132 hi hz0 hz1 hz2 rfl (by decide) _ _ _ rfl (own_below HG.out.2 bel) _ 1 1 [.bool a.many] rfl rfl ?_ ?_ ?_ ?_ ?_ ?_))
     ·first|exact fun i u hu=>zAe (by simp) i u hu|exact fun i u hu=>hu
     ·intro u hu
      simp only[List.mem_cons,List.not_mem_nil,or_false] at hu
      subst hu
      rfl
     ·simp only[maxLen];omega
     ·omega
     ·have h1:=HG.out.1.size
      simp at h1 ⊢
      omega
     ·intro v' w3 hown' hgrow _
      have R:=zAW.step HG.out bel (show w3.ownsRow ((more (wB.alloc zeroV) l q).alloc (funL pb pn)).heap.size 4 1 v' (j+1) (cs.take j++[.bool a.many]) from by simpa [hsz] using hown') hgrow
      rw[<- zAn (HCX.out j a HAJ.out)] at R
      have HG':=zh R
      clear hown' hgrow R HG c0 c1 c2 c3 c4 c5 c6 c7 c8 c9 c10 hwr
      go_wp2
      go_roundw
      case rel=>exact⟨j+1,by omega,by go_num,by rw[HJ.out];simp,HG'.out⟩
      case measure=>simp[intOf];omega
   ·obtain rfl:j=n:=by omega
    rw[List.take_of_length_le (by omega)] at hR
    obtain⟨hB,hO⟩:=hR
    have hkw:Keeps (more (wB.alloc zeroV) l q) wr:=Keeps.trans kps (zAr hB)
    have HPL:=zh (hkw.cell _ _ _ h1)
    have HPD:=zh (hkw.cell _ _ _ h2)
    have HPM:=zh (hkw.cell _ _ _ h3)
    have hpd:=World.block_lt_of_cell? _ _ HPD.out
    have hpn:=World.block_lt_of_cell? _ _ HPM.out
    obtain⟨xsB,hxb⟩:∃ xsB,xsB=xs.map Arg.many:=⟨_,rfl⟩
    rw[HCS.out,<-hxb] at hO
    obtain⟨A',c',rfl⟩:=own_slice hO
    have HRD:=zh (Reads.zB5 hO)
    have hbn:xsB.length=j:=by rw[hxb,List.length_map,hlen]
    have htl:takesAll s (xs.map Arg.many)=layTakes i s xsB:=by rw[<- hxb];simp[takesAll,hno,hl]
    obtain⟨l2,q2,rfl⟩:=zA0 hB
    clear h1 h2 h3 hkw hO hB
    unfold zeroV funL at *
    cases hokj:okN j
    ·have e:zCG ok s xs r=errG 8:=by
      have h1:=HON.out
      rw[hokj] at h1
      simp[zCG,<-h1]
     have E:=zh e
     clear e HDO' hokj htl
     go_wp2_with(go_at_call 21;refine mB (zA3 _ _) ?_;intro l3 q3)
     all_goals(simp only[<- hsz];go_returns)
     all_goals exact⟨by rw[E.out],(ready_end HRY.out).below bel,HTB.out.trans (.of_below bel)⟩
    ·have h1:=HON.out
     rw[hokj] at h1
     obtain⟨tk,htk⟩:∃ tk,layTakes i s xsB=tk:=⟨_,rfl⟩
     have HTK:=zh htk
     rw[htk] at htl
     cases tk
     ·have e:zCG ok s xs r=errG 8:=by simp[zCG,htl]
      have E:=zh e
      clear e HDO' h1 htl htk hokj
      go_wp2_with(first|(go_at_call 21;refine mB (zA3 _ _) ?_;intro l3 q3)|(go_at_call 98;refine(made1 pb pn i s A' j c' xsB _ _ (HPL.out) (HPM.out) HRD.out (by omega)).mono ?_;rintro e w4 ⟨rfl,hb⟩;rw[HTK.out];obtain⟨l4,q4,rfl⟩:=zA0 hb;clear hb))
      all_goals(simp only[<- hsz];go_returns)
      all_goals exact⟨by rw[E.out],(ready_end HRY.out).below bel,HTB.out.trans (.of_below bel)⟩
     ·have e:zCG ok s xs r=r:=by simp[zCG,htl,<-h1]
      have E:=zh e
      clear e h1 htl htk hokj
      go_wp2_with(first|(go_at_call 98;refine(made1 pb pn i s A' j c' xsB _ _ (HPL.out) (HPM.out) HRD.out (by omega)).mono ?_;rintro e w4 ⟨rfl,hb⟩;rw[HTK.out];obtain⟨l4,q4,rfl⟩:=zA0 hb;clear hb)|(go_at_call 99;refine Calls.mono (made2 pb pn i s A j c tx r _ ?_ ?_ (fun w' hw'=>HDO'.out w' ((show Below wB.heap.size wB _ from bel).trans (hw'.mono (show Below wB.heap.size wB _ from bel).size)))) ?_;(rw[<- zAO (l:=l2) (n:=q2)];exact(keeps_more (keeps_refl _) _ _).cell _ _ _ HPD.out);(rw[<- zAO (l:=l2) (n:=q2)];exact(keeps_more (keeps_refl _) _ _).cell _ _ _ HPM.out);rintro e w5 ⟨rfl,hb⟩;obtain⟨l5,q5,rfl⟩:=zA0 hb;clear hb))
      all_goals(simp only[<- hsz];go_returns)
      all_goals exact⟨by rw[E.out],(ready_end HRY.out).below bel,HTB.out.trans (.of_below bel)⟩
 ·intro hv
  have h1:=hv.out
  rw[hD.out] at h1
  cases h1
theorem table_callNoneF (b:Nat) (tx:Int) (s:ByteArray) (hD0:D1 50 s=false) (ok:Nat->Bool) (xs:List Arg) (A:Option Addr) (n c B:Nat) (w:World) (h:zCF w b) (hr:Reads w B 11 A n (zBC xs)) (hap:Apart b A n) (hm:n<=1000000000000)
  (hmay:∀ j a,xs[j]? =some a->∀ w',Turn b w w'->Rt 45 #[a.agg] w' (.bool (ok j))) :
  Calls Tryz.prog 26 #[.pointer (some ⟨b,0,none⟩),.string s,.slice A n c,.int .i64 tx] w fun e w'=>e=.returned (vG (errG 8))/\Ready w' b/\Turn b w w':=by
 have hD:=zh hD0
 have hbl:=h.lt
 have hlen:xs.length=n:=by
  have:=hr.1
  rw[zAo] at this
  omega
 obtain⟨cs,hcs⟩:∃ cs,cs=(xs.map Arg.many).map Value.bool:=⟨_,rfl⟩
 have hcl:cs.length=n:=by rw[hcs];simp[hlen]
 have hcx:∀ (j:Nat) (x:Arg),xs[j]? =some x->cs[j]? =some (.bool x.many):=fun j x hx=>by rw[hcs,List.getElem?_map,List.getElem?_map,hx];rfl
 have HCX:=zh hcx
 have HCS:=zh hcs
 obtain⟨okN,hok0,hokS,hokn⟩:∃ okN:Nat->Bool,okN 0=true/\(∀ j,okN (j+1)=(okN j&&ok j))/\okN n=(List.range xs.length).all ok:=⟨fun j=>(List.range j).all ok,rfl,fun j=>by simp only;rw[List.range_succ,List.all_append];simp,by rw[hlen]⟩
 have HOK:=zh hokS
 have HON:=zh hokn
 have HM:=zh hmay
 have HR0:=zh hr
 have hTO:=zh (h.below (show Below w.heap.size w (w.alloc zeroV) from bel))
 clear hcx hokS hokn hcs hmay hr h hD0
 obtain⟨i0,hi,hz0,hz1,hz2⟩:=info_parts info_B
 go_enter Tryz.func26,Tryz.ntmps26
 go_wp2_with(first|(go_at_call 44;refine(table_all b _ hTO.out).mono ?_;rintro e w1 ⟨⟨m,rfl,hM⟩,hRD,hTT⟩;obtain⟨wB,l,q,hsz,hTB,rfl⟩:=turn_split hbl hTT;have HMI:=zh hM;have HRY:=zh hRD;have HTB:=zh hTB;clear hM hRD hTT hTB)|(at_lookup;refine wpList_lookI HMI.out _ _ rfl rfl rfl _ rfl ?_ ?_))
 ·intro fn first cap fn1 first1 cap1 hv
  have h1:=hv.out.2
  rw[hD.out] at h1
  cases h1
 ·have HR:=zh (HR0.out.turn hap HTB.out)
  have HMA':=zh (fun a j ha w' (hb:Below wB.heap.size wB w')=>HM.out a j ha w' (HTB.out.trans (.of_below hb)))
  go_loopw [23,10,11] (fun t o v wr=>∃ j:Nat,j<=n/\t=.int .i64 j/\o=.bool false/\zAW ((more (wB.alloc zeroV) l q).alloc funZ) wr 4 1 v j (cs.take j)) (fun t _ _ _=>n-(intOf t).toNat)
  case atStart=>exact⟨0,Nat.zero_le _,rfl,rfl,Below.refl _ _,World.ownsRow_nil _ _ _ _⟩
  case round =>
   obtain⟨j,hj,rfl,rfl,hR⟩:=hrel
   have hw0:Below wB.heap.size wB ((more (wB.alloc zeroV) l q).alloc funZ):=bel
   have hwr:Below wB.heap.size wB wr:=hw0.trans (hR.1.mono hw0.size)
   have hws:=hwr.size
   by_cases hlt:j<n
   ·obtain⟨a,ha⟩:∃ a,xs[j]? =some a:=⟨_,List.getElem?_eq_getElem (show j<xs.length by omega)⟩
    obtain⟨bk,off,rfl,_,hc⟩:=HR.out.2 (by omega)
    have hcell:∀ i u,a.cells[i]? =some u->wr.cell? ⟨bk,off+(j*11+i),none⟩=some u:=fun i u hu=>by
     have h1:=hc _ u (zAb xs j a ha i u hu)
     exact(hwr.cell (p:=⟨bk,_,none⟩) (World.block_lt_of_cell? wB _ h1)).trans h1
    have c0:=hcell 0 _ rfl
    have c1:=hcell 1 _ rfl
    have c2:=hcell 2 _ rfl
    have c3:=hcell 3 _ rfl
    have c4:=hcell 4 _ rfl
    have c5:=hcell 5 _ rfl
    have c6:=hcell 6 _ rfl
    have c7:=hcell 7 _ rfl
    have c8:=hcell 8 _ rfl
    have c9:=hcell 9 _ rfl
    have c10:=hcell 10 _ rfl
    simp only[<- Nat.add_assoc,Nat.add_zero] at c0 c1 c2 c3 c4 c5 c6 c7 c8 c9 c10
    have HG:=zh hR
    have HAJ:=zh ha
    have HMH:=zh (HMA'.out j a ha)
    clear hcell hR hc ha
    clear hw0
    go_wp2_with(at_builtin;refine wpList_append_own _ rfl _ _ 132 rfl ((more (wB.alloc zeroV) l q).alloc funZ).heap.size 4 i0 _ 1 1 Tryz.underlying132 hi hz0 hz1 hz2 rfl (by decide) _ _ _ rfl (own_below HG.out.2 bel) _ 1 1 [.bool a.many] rfl rfl ?_ ?_ ?_ ?_ ?_ ?_)
    ·first|exact fun i u hu=>zAe (by simp) i u hu|exact fun i u hu=>hu
    ·intro u hu
     simp only[List.mem_cons,List.not_mem_nil,or_false] at hu
     subst hu
     rfl
    ·simp only[maxLen];omega
    ·omega
    ·have h1:=HG.out.1.size
     simp at h1 ⊢
     omega
    ·intro v' w3 hown' hgrow _
     have R:=zAW.step HG.out bel (show w3.ownsRow ((more (wB.alloc zeroV) l q).alloc funZ).heap.size 4 1 v' (j+1) (cs.take j++[.bool a.many]) from by simpa [hsz] using hown') hgrow
     rw[<- zAn (HCX.out j a HAJ.out)] at R
     have HG':=zh R
     clear hown' hgrow R HG c0 c1 c2 c3 c4 c5 c6 c7 c8 c9 c10 hwr
     go_wp2
     go_roundw
     case rel=>exact⟨j+1,by omega,by go_num,rfl,HG'.out⟩
     case measure=>simp[intOf];omega
   ·obtain rfl:j=n:=by omega
    obtain⟨hB,hO⟩:=hR
    obtain⟨l2,q2,rfl⟩:=zA0 hB
    clear hO hB hw0 hwr
    unfold zeroV funZ at *
    go_wp2_with(go_at_call 21;refine mB (zA3 _ _) ?_;intro l3 q3)
    all_goals(simp only[<- hsz];go_returns)
    all_goals exact⟨rfl,(ready_end HRY.out).below bel,HTB.out.trans (.of_below bel)⟩
end Go.Proofs.YtppghgnhlgoagaaGreatDoor
