/- Parts. -/
import Derived.Test.YtppghgnhlgoagaaGreatDoorG29
import Derived.MapViews
set_option linter.all false
set_option maxRecDepth 100000
set_option maxHeartbeats 4000000
namespace Go.Proofs.YtppghgnhlgoagaaGreatDoor
open Go Go.RowKit
open Go.Lib renaming hid->zh
structure ArgsAt (w:World) (pl:List (Arg×List En)) (A:Option Addr) (n:Nat):Prop where
 hr:Reads w w.heap.size 11 A n (zBC (pl.map Prod.fst))
 hE:∀ p∈pl,zAt w p.1 p.2
 hT:(zA4 pl).length<=1000000000000
 hm:n<=1000000000000
 hnn:∀ p∈pl,p.1.n<=1000000000000
 h64:∀ p∈pl,Is64 p.1.val.num/\∀ e∈p.2,Is64 e.v.num
 hok:∀ p∈pl,zBo p.1 p.2=true
theorem ArgsAt.below {w W:World} {pl:List (Arg×List En)} {A:Option Addr} {n:Nat} (h:ArgsAt w pl A n) (hb:Below w.heap.size w W):ArgsAt W pl A n :=
 ⟨(h.hr.below hb).lift hb.size,fun p hp=>(h.hE p hp).below hb,h.hT,h.hm,h.hnn,h.h64,h.hok⟩
theorem entsGo_may {t l b r:Int} :∀ {o:Option En} {es:List En},zAg t l b r o es=true->∀ e∈es,mayG e.v=true/\inB t l b r e.row e.col=true
 | _,[],_=>fun e he=>by simp at he
 | none,x::es,h=>fun e he=>by
   unfold zAg at h
   simp only[Bool.and_eq_true] at h
   rcases List.mem_cons.1 he with rfl|he
   ·exact⟨h.1.2,h.1.1⟩
   ·exact entsGo_may h.2 e he
 | some _,x::es,h=>fun e he=>by
   unfold zAg at h
   simp only[Bool.and_eq_true] at h
   rcases List.mem_cons.1 he with rfl|he
   ·exact⟨h.1.1.2,h.1.1.1⟩
   ·exact entsGo_may h.2 e he
theorem items_may {w:World} {pl:List (Arg×List En)} {A:Option Addr} {n:Nat} (h:ArgsAt w pl A n):∀ v∈zA4 pl,mayG v=true/\Is64 v.num:=by
 intro v hv
 obtain⟨p,hp,hv⟩:=List.mem_flatMap.1 hv
 have h1:=h.hok p hp
 have h2:=h.h64 p hp
 have h3:=(h.hE p hp).1
 unfold zC3 at hv
 unfold zBo at h1
 by_cases hm:p.1.many=true
 ·rw[if_pos hm] at h1 hv
  simp only[Bool.and_eq_true] at h1
  simp only[List.nil_append,List.mem_map] at hv
  obtain⟨e,he,rfl⟩:=hv
  exact⟨(entsGo_may h1.2 e he).1,h2.2 e he⟩
 ·rw[if_neg hm] at h1 hv
  simp only[Bool.and_eq_true,decide_eq_true_eq] at h1
  have h4:p.2=[]:=List.length_eq_zero_iff.1 (by rw[h3];exact h1.1.2)
  rw[h4] at hv
  simp only[List.map_nil,List.append_nil,List.mem_cons,List.not_mem_nil,or_false] at hv
  subst hv
  exact⟨h1.2,h2.1⟩
theorem num_63 {v:V} (h:mayG v=true) (h64:Is64 v.num) (h1:v.tag=1):In63 v.num:=by
 unfold mayG at h
 simp only[Bool.and_eq_true,decide_eq_true_eq] at h
 rw[if_pos h1] at h
 have h5:v.num≠minI:=by simpa using h.2
 unfold minI at h5
 unfold Is64 at h64
 unfold In63
 omega
theorem among_63 {w:World} {pl:List (Arg×List En)} {A:Option Addr} {n:Nat} (h:ArgsAt w pl A n):∀ x∈(zAA (zA4 pl)).1,In63 x:=by
 intro x hx
 unfold zAA at hx
 split at hx
 ·simp at hx
 ·simp only[numsOf,List.mem_map,List.mem_filter] at hx
  obtain⟨v,⟨hv,h1⟩,rfl⟩:=hx
  obtain⟨a,b⟩:=items_may h v hv
  exact num_63 a b (by simpa [isN] using h1)
theorem among_le (vs:List V):(zAA vs).1.length<=vs.length:=by
 unfold zAA
 split
 ·simp
 ·exact numsOf_le vs
theorem aggs_numbers0 (p k:Nat) (hk:∀ (args:Array Value) (w:World),Sem.run Tryz.prog (callFunc k args) w=.ok (.enter k args) w) (pl:List (Arg×List En)) (A:Option Addr) (n c:Nat) (tx:Int) (w:World) (hp:w.cell? ⟨p,0,none⟩=some (.func (.func k) #[] #[])) (hP:ArgsAt w pl A n) (r:V)
  (hf:∀ W A' c',Below w.heap.size w W->Reads W W.heap.size 1 A' (zAA (zA4 pl)).1.length (I (zAA (zA4 pl)).1)->Calls Tryz.prog k #[.slice A' (zAA (zA4 pl)).1.length c'] W fun e w'=>e=.returned (vG r)/\Below W.heap.size W w') :
  Rt 264 #[.slice A n c,.int .i64 tx,.pointer (some ⟨p,0,none⟩)] w (vG (if (zAA (zA4 pl)).2.tag=4 then (zAA (zA4 pl)).2 else r)):=by
 have HI:=zh (fun W (hb:Below w.heap.size w W)=>aggs_items pl A n c W.heap.size W (hP.below hb).hr (hP.below hb).hE hP.hT hP.hm hP.hnn)
 have HA:=zh (fun A' c' B' W (h:Reads W B' 5 A' (zA4 pl).length (flat (zA4 pl)))=>aggs_among (zA4 pl) A' (zA4 pl).length c' B' W h hP.hT)
 obtain⟨L,hL⟩:∃ L,zA4 pl=L:=⟨_,rfl⟩
 rw[hL] at HI HA hf ⊢
 obtain⟨ls,hls⟩:∃ ls,(zAA L).1=ls:=⟨_,rfl⟩
 obtain⟨f,hf0⟩:∃ f,(zAA L).2=f:=⟨_,rfl⟩
 rw[hls] at hf
 simp only[hls,hf0] at HA
 rw[hf0]
 have HF:=zh hf
 have hpl:=cltK hp
 have hpl2:p<w.heap.size+1:=Nat.lt_succ_of_lt hpl
 clear hls hf0 hL hP hf
 by_cases h4:f.tag=4
 ·have h4':(f.tag==4)=true:=by simp[h4]
  rw[if_pos h4]
  clear h4
  go_enter Tryz.func264,Tryz.ntmps264
  go_wp2_with(first|(go_at_call 266;refine(HI.out _ bel).mono ?_;rintro e w1 ⟨v,rfl,ho,hb⟩;obtain⟨Ai,ci,rfl⟩:=zAK ho;have HO:=zh ho;clear ho;obtain⟨l1,q1,rfl⟩:=zA0 hb;clear hb)|(go_at_call 265;refine(HA.out _ _ _ _ (Reads.zB5 HO.out)).mono ?_;rintro e w2 ⟨v,rfl,ho2,hb⟩;obtain⟨Aj,cj,rfl⟩:=zAK ho2;have HO2:=zh ho2;clear ho2;obtain⟨l2,q2,rfl⟩:=zA0 hb;clear hb;rw[zAO] at HO2 ⊢;obtain⟨lx,hlx⟩:∃ lx,lx=l1++l2:=⟨_,rfl⟩;rw[<- hlx] at HO2 ⊢;clear hlx;have hpl3:p<w.heap.size+1+lx.length:=lt_len hpl2))
  all_goals go_returns
  all_goals exact⟨rfl,bel⟩
 ·have h4':(f.tag==4)=false:=by simp[h4]
  rw[if_neg h4]
  clear h4
  go_enter Tryz.func264,Tryz.ntmps264
  go_wp2_with(first|(go_at_call 266;refine(HI.out _ bel).mono ?_;rintro e w1 ⟨v,rfl,ho,hb⟩;obtain⟨Ai,ci,rfl⟩:=zAK ho;have HO:=zh ho;clear ho;obtain⟨l1,q1,rfl⟩:=zA0 hb;clear hb)|(go_at_call 265;refine(HA.out _ _ _ _ (Reads.zB5 HO.out)).mono ?_;rintro e w2 ⟨v,rfl,ho2,hb⟩;obtain⟨Aj,cj,rfl⟩:=zAK ho2;have HO2:=zh ho2;clear ho2;obtain⟨l2,q2,rfl⟩:=zA0 hb;clear hb;rw[zAO] at HO2 ⊢;obtain⟨lx,hlx⟩:∃ lx,lx=l1++l2:=⟨_,rfl⟩;rw[<- hlx] at HO2 ⊢;clear hlx;have hpl3:p<w.heap.size+1+lx.length:=lt_len hpl2)|(with_reducible refine Calls.mono (HF.out _ _ _ bel ((Reads.zB5 (own_below HO2.out bel)))) ?_;rintro e w3 ⟨rfl,hb⟩;obtain⟨l3,q3,rfl⟩:=zA0 hb;clear hb))
  all_goals go_returns
  all_goals exact⟨rfl,bel⟩
theorem zCI (p k pc:Nat) (hk:∀ (args:Array Value) (w:World),Sem.run Tryz.prog (callFunc k args) w=.ok (.enter k args) w) (pl:List (Arg×List En)) (A:Option Addr) (n c:Nat) (tx:Int) (w:World) (hp:w.cell? ⟨p,0,none⟩=some (.func (.func k) #[] #[.pointer (some ⟨pc,0,none⟩)])) (hP:ArgsAt w pl A n) (r:V)
  (hf:∀ W A' c',Below w.heap.size w W->Reads W W.heap.size 1 A' (zAA (zA4 pl)).1.length (I (zAA (zA4 pl)).1)->Calls Tryz.prog k #[.slice A' (zAA (zA4 pl)).1.length c',.pointer (some ⟨pc,0,none⟩)] W fun e w'=>e=.returned (vG r)/\Below W.heap.size W w') :
  Rt 264 #[.slice A n c,.int .i64 tx,.pointer (some ⟨p,0,none⟩)] w (vG (if (zAA (zA4 pl)).2.tag=4 then (zAA (zA4 pl)).2 else r)):=by
 have HI:=zh (fun W (hb:Below w.heap.size w W)=>aggs_items pl A n c W.heap.size W (hP.below hb).hr (hP.below hb).hE hP.hT hP.hm hP.hnn)
 have HA:=zh (fun A' c' B' W (h:Reads W B' 5 A' (zA4 pl).length (flat (zA4 pl)))=>aggs_among (zA4 pl) A' (zA4 pl).length c' B' W h hP.hT)
 obtain⟨L,hL⟩:∃ L,zA4 pl=L:=⟨_,rfl⟩
 rw[hL] at HI HA hf ⊢
 obtain⟨ls,hls⟩:∃ ls,(zAA L).1=ls:=⟨_,rfl⟩
 obtain⟨f,hf0⟩:∃ f,(zAA L).2=f:=⟨_,rfl⟩
 rw[hls] at hf
 simp only[hls,hf0] at HA
 rw[hf0]
 have HF:=zh hf
 have hpl:=cltK hp
 have hpl2:p<w.heap.size+1:=Nat.lt_succ_of_lt hpl
 clear hls hf0 hL hP hf
 by_cases h4:f.tag=4
 ·have h4':(f.tag==4)=true:=by simp[h4]
  rw[if_pos h4]
  clear h4
  go_enter Tryz.func264,Tryz.ntmps264
  go_wp2_with(first|(go_at_call 266;refine(HI.out _ bel).mono ?_;rintro e w1 ⟨v,rfl,ho,hb⟩;obtain⟨Ai,ci,rfl⟩:=zAK ho;have HO:=zh ho;clear ho;obtain⟨l1,q1,rfl⟩:=zA0 hb;clear hb)|(go_at_call 265;refine(HA.out _ _ _ _ (Reads.zB5 HO.out)).mono ?_;rintro e w2 ⟨v,rfl,ho2,hb⟩;obtain⟨Aj,cj,rfl⟩:=zAK ho2;have HO2:=zh ho2;clear ho2;obtain⟨l2,q2,rfl⟩:=zA0 hb;clear hb;rw[zAO] at HO2 ⊢;obtain⟨lx,hlx⟩:∃ lx,lx=l1++l2:=⟨_,rfl⟩;rw[<- hlx] at HO2 ⊢;clear hlx;have hpl3:p<w.heap.size+1+lx.length:=lt_len hpl2))
  all_goals go_returns
  all_goals exact⟨rfl,bel⟩
 ·have h4':(f.tag==4)=false:=by simp[h4]
  rw[if_neg h4]
  clear h4
  go_enter Tryz.func264,Tryz.ntmps264
  go_wp2_with(first|(go_at_call 266;refine(HI.out _ bel).mono ?_;rintro e w1 ⟨v,rfl,ho,hb⟩;obtain⟨Ai,ci,rfl⟩:=zAK ho;have HO:=zh ho;clear ho;obtain⟨l1,q1,rfl⟩:=zA0 hb;clear hb)|(go_at_call 265;refine(HA.out _ _ _ _ (Reads.zB5 HO.out)).mono ?_;rintro e w2 ⟨v,rfl,ho2,hb⟩;obtain⟨Aj,cj,rfl⟩:=zAK ho2;have HO2:=zh ho2;clear ho2;obtain⟨l2,q2,rfl⟩:=zA0 hb;clear hb;rw[zAO] at HO2 ⊢;obtain⟨lx,hlx⟩:∃ lx,lx=l1++l2:=⟨_,rfl⟩;rw[<- hlx] at HO2 ⊢;clear hlx;have hpl3:p<w.heap.size+1+lx.length:=lt_len hpl2)|(with_reducible refine Calls.mono (HF.out _ _ _ bel ((Reads.zB5 (own_below HO2.out bel)))) ?_;rintro e w3 ⟨rfl,hb⟩;obtain⟨l3,q3,rfl⟩:=zA0 hb;clear hb))
  all_goals go_returns
  all_goals exact⟨rfl,bel⟩
theorem aggs_some (p k:Nat) (hk:∀ (args:Array Value) (w:World),Sem.run Tryz.prog (callFunc k args) w=.ok (.enter k args) w) (l:List Int) (A:Option Addr) (c:Nat) (w:World) (hp:w.cell? ⟨p,0,none⟩=some (.func (.func k) #[] #[])) (hr:Reads w w.heap.size 1 A l.length (I l)) (r:Int)
  (hf:0<l.length->∀ W,Below w.heap.size w W->Reads W W.heap.size 1 A l.length (I l)->Calls Tryz.prog k #[.slice A l.length c] W fun e w'=>e=.returned (.int .i64 r)/\Below W.heap.size W w') :
  Rt 268 #[.slice A l.length c,.pointer (some ⟨p,0,none⟩)] w (vG (if l.length=0 then errG 6 else numG r)):=by
 have HR:=zh hr
 have hpl:=cltK hp
 have hpl2:p<w.heap.size+1:=Nat.lt_succ_of_lt hpl
 clear hr
 obtain⟨n,hn⟩:∃ n,l.length=n:=⟨_,rfl⟩
 rw[hn] at hf HR ⊢
 clear hn
 by_cases h0:n=0
 ·subst h0
  rw[if_pos rfl]
  go_enter Tryz.func268,Tryz.ntmps268
  go_wp2_with(go_at_call 21;refine mB (zA3 _ _) ?_;intro l3 q3)
  all_goals go_returns
  all_goals exact⟨rfl,bel⟩
 ·rw[if_neg h0]
  have HF:=zh (hf (by omega))
  have h0':(((n:Nat):Int)==0)=false:=by simpa using h0
  clear hf h0
  go_enter Tryz.func268,Tryz.ntmps268
  go_wp2_with(first|(with_reducible refine Calls.mono (HF.out _ bel ((HR.out.below bel).lift (show Below w.heap.size w _ from bel).size)) ?_;rintro e w3 ⟨rfl,hb⟩;obtain⟨l3,q3,rfl⟩:=zA0 hb;clear hb)|(go_at_call 55;refine mB (zAq _ _) ?_;intro l4 q4))
  all_goals go_returns
  all_goals exact⟨rfl,bel⟩
theorem aggs_sumit (l:List Int) (A:Option Addr) (c:Nat) (w:World) (hr:Reads w w.heap.size 1 A l.length (I l)) (hm:l.length<=1000000000000) (h64:∀ x∈l,Is64 x) :
  Rt 201 #[.slice A l.length c] w (vG (fitG l.sum)):=by
 have HS:=zh (fun W (hb:Below w.heap.size w W)=>aggs_sum l A l.length c _ W (hr.below hb) hm h64)
 obtain⟨S,hS⟩:∃ S,l.sum=S:=⟨_,rfl⟩
 rw[hS] at HS ⊢
 obtain⟨n,hn⟩:∃ n,l.length=n:=⟨_,rfl⟩
 rw[hn] at HS ⊢
 clear hr hm h64 hS hn
 go_enter Tryz.func201,Tryz.ntmps201
 go_wp2_with(first|(go_at_call 203;refine mB (HS.out _ bel) ?_;intro l3 q3)|(go_at_call 202;refine mB (aggs_fit S _) ?_;intro l4 q4))
 all_goals go_returns
 all_goals exact⟨rfl,bel⟩
theorem aggs_count (p k:Nat) (hk:∀ (args:Array Value) (w:World),Sem.run Tryz.prog (callFunc k args) w=.ok (.enter k args) w) (f:V->Bool) (hf:∀ v W,Calls Tryz.prog k #[(vG v)] W fun e w'=>e=.returned (.bool (f v))/\Below W.heap.size W w')
  (pl:List (Arg×List En)) (A:Option Addr) (n c:Nat) (tx:Int) (w:World) (hp:w.cell? ⟨p,0,none⟩=some (.func (.func k) #[] #[])) (hP:ArgsAt w pl A n) :
  Rt 272 #[.slice A n c,.int .i64 tx,.pointer (some ⟨p,0,none⟩)] w (vG (numG (((zA4 pl).countP f:Int)*10000))):=by
 have HI:=zh (fun W (hb:Below w.heap.size w W)=>aggs_items pl A n c W.heap.size W (hP.below hb).hr (hP.below hb).hE hP.hT hP.hm hP.hnn)
 have hT:=hP.hT
 obtain⟨us,hL⟩:∃ us,zA4 pl=us:=⟨_,rfl⟩
 rw[hL] at HI hT ⊢
 have HF:=zh hf
 have hpl:=cltK hp
 have hpl2:p<w.heap.size+1:=Nat.lt_succ_of_lt hpl
 clear hL hP hf
 go_enter Tryz.func272,Tryz.ntmps272
 go_wp2_with(go_at_call 266;refine(HI.out _ bel).mono ?_;rintro e w1 ⟨v,rfl,ho,hb⟩;obtain⟨Ai,ci,rfl⟩:=zAK ho;have HO:=zh ho;clear ho;obtain⟨l1,q1,rfl⟩:=zA0 hb;clear hb)
 obtain⟨WX,hWX⟩:∃ WX,WX=more (w.alloc zeroV) l1 q1:=⟨_,rfl⟩
 have HBX:=zh (show Below (w.alloc zeroV).heap.size (w.alloc zeroV) WX by rw[hWX];exact zAi (Nat.le_refl _))
 have HRD:=zh (show Reads WX WX.heap.size 5 Ai us.length (flat us) by rw[hWX];exact Reads.zB5 HO.out)
 have HWX:=zh hWX
 clear HO hWX
 go_loopw [12,6] (fun t v wr=>∃ j:Nat,j<=us.length/\t=.int .i64 j/\v=.int .i64 ((us.take j).countP f:Nat)/\Below WX.heap.size WX wr) (fun t _ _=>us.length-(intOf t).toNat)
 case atStart=>exact⟨0,Nat.zero_le _,rfl,rfl,by rw[HWX.out];exact Below.refl _ _⟩
 case round =>
  obtain⟨j,hj,rfl,rfl,hB⟩:=hrel
  have hb1:=HBX.out.trans (hB.mono HBX.out.size)
  have hb2:Below w.heap.size w wr:=(show Below w.heap.size w (w.alloc zeroV) from bel).trans (hb1.mono (by simp))
  have hp2:wr.cell? ⟨p,0,none⟩=some (.func (.func k) #[] #[]):=cell_below hp hb2
  have hpl4:p<wr.heap.size:=Nat.lt_of_lt_of_le hpl hb2.size
  have HB:=zh hB
  have HB1:=zh hb1
  clear hB hb1 hb2
  by_cases hlt:j<us.length
  ·obtain⟨x,hx⟩:∃ x,us[j]? =some x:=⟨_,List.getElem?_eq_getElem hlt⟩
   obtain⟨bk,off,rfl,_,hc⟩:=HRD.out.2 (by omega)
   have hcell:∀ i u,x.cells[i]? =some u->wr.cell? ⟨bk,off+(j*5+i),none⟩=some u:=fun i u hu=>cell_below (hc _ u (flat_at us j x hx i u hu)) HB.out
   have c0:=hcell 0 _ rfl
   have c1:=hcell 1 _ rfl
   have c2:=hcell 2 _ rfl
   have c3:=hcell 3 _ rfl
   have c4:=hcell 4 _ rfl
   simp only[<- Nat.add_assoc,Nat.add_zero] at c0 c1 c2 c3 c4
   have hbr:=cltK c0
   have hcl:(us.take j).countP f<=j:=Nat.le_trans List.countP_le_length (by rw[List.length_take];omega)
   have hcs:(us.take (j+1)).countP f=(us.take j).countP f+(if f x then 1 else 0):=by rw[zAn hx,List.countP_append];simp[List.countP_cons]
   have HFX:=zh (HF.out x)
   obtain⟨z,hz⟩:∃ z,f x=z:=⟨_,rfl⟩
   rw[hz] at HFX hcs
   obtain⟨m,hm⟩:∃ m,(us.take j).countP f=m:=⟨_,rfl⟩
   rw[hm] at hcl hcs ⊢
   have HCS:=zh hcs
   clear hcell hc hx hz hcs hm
   cases z
   all_goals go_wp2_with(with_reducible refine Calls.mono (HFX.out _) ?_;rintro e w3 ⟨rfl,hb⟩;obtain⟨l3,q3,rfl⟩:=zA0 hb;clear hb)
   all_goals go_roundw
   case rel=>exact⟨j+1,by omega,by go_num,by rw[HCS.out];simp,HB.out.trans ((show Below wr.heap.size wr _ from bel).mono HB.out.size)⟩
   case measure=>simp[intOf];omega
   case rel=>exact⟨j+1,by omega,by go_num,by rw[HCS.out];go_num,HB.out.trans ((show Below wr.heap.size wr _ from bel).mono HB.out.size)⟩
   case measure=>simp[intOf];omega
  ·obtain rfl:j=us.length:=by omega
   rw[List.take_of_length_le (Nat.le_refl _)]
   have hcl:us.countP f<=1000000000000:=Nat.le_trans List.countP_le_length hT
   obtain⟨m,hm⟩:∃ m,us.countP f=m:=⟨_,rfl⟩
   have HM:=zh hm
   rw[hm] at hcl ⊢
   clear hm
   obtain⟨l0,q0,hwe⟩:=zA0 HB1.out
   subst hwe
   unfold zeroV at *
   go_wp2_with(go_at_call 222;refine mB (aggs_whole _ (by omega) (by omega) _) ?_;intro l3 q3)
   all_goals go_returns
   all_goals exact⟨by rw[HM.out],bel⟩
end Go.Proofs.YtppghgnhlgoagaaGreatDoor
namespace Go.Proofs.YtppghgnhlgoagaaGreatDoor
open Go Go.Maps Go.WideMaps Go.RowKit
theorem prog_laid:laidOutB Tryz.prog=true:=by kernel_rfl
theorem place_row:(304:TypeId)<Tryz.prog.types.size:=of_decide_eq_true (by kernel_rfl)
theorem place_wide:(match Tryz.prog.underlying 304 with|some (.array _ _)|some (.struct _)=>true|_=>false)=true:=by rw[Tryz.underlying304]
theorem place_law:KeyLaw Tryz.prog 304:=deep_law_laid prog_laid (m:=2) (by omega) place_row (by kernel_rfl) place_wide
theorem place_type:Tryz.prog.keyType 304=true:=by kernel_rfl
theorem place_cells:Tryz.prog.cellsOf 304=2:=by kernel_rfl
theorem int_cells:Tryz.prog.cellsOf 3=1:=by kernel_rfl
theorem types_size:∃ m,Tryz.prog.types.size=m+1:=⟨Tryz.prog.types.size-1,by kernel_rfl⟩
theorem wf64 {a:Int} (h:Is64 a):(Lit.int .i64 a).wf=true:=by
 have:=wrap64_wf a
 rwa[show wrap64 a=a by unfold wrap64;unfold Is64 at h;omega] at this
theorem place_key:PlaceKey Tryz.prog 304 where
 keyed:=Keyed.of_law place_law
 key {p} h:=by
  obtain⟨a,b⟩:=p
  have wa:=wf64 h.1
  have wb:=wf64 h.2
  obtain⟨m,hm⟩:=types_size
  unfold keyOf plV plL
  simp only[Tryz.underlying304]
  rw[if_pos (by simp[place_type,Value.formed,Tryz.underlying304,place_cells]),hm]
  unfold Program.keyLits
  simp only[Tryz.underlying304,Value.cells]
  rw[if_pos ⟨by rw[place_cells];rfl,by kernel_rfl⟩]
  simp[int_cells,Program.keyLits,Tryz.underlying3,wa,wb]
end Go.Proofs.YtppghgnhlgoagaaGreatDoor
namespace Go.Proofs.YtppghgnhlgoagaaGreatDoor
open Go Go.RowKit
open Go.Lib renaming hid->zh
def elV (v:V):Value:=(vG v)
def plE (a:Arg) (e:En):Int×Int:=(e.row-a.top,e.col-a.left)
def heldP (a:Arg) (es:List En):List ((Int×Int)×Value):=es.map fun e=>(plE a e,elV e.v)
def SmallE (e:En):Prop:=(-100000<=e.row/\e.row<=100000)/\(-100000<=e.col/\e.col<=100000)
def argO (a:Arg) (A:Option Addr):Obj:=.cells #[.bool a.many,.int .i64 a.val.tag,.int .i64 a.val.num,.string a.val.str,.bool a.val.is,.int .i64 a.val.code,.int .i64 a.top,.int .i64 a.left,.int .i64 a.bottom,.int .i64 a.right,.slice A a.n a.c] 91
theorem zBr.at0 {w w':World} {b:Nat} {es:List ((Int×Int)×Value)} (h:zBr Tryz.prog 304 w b es) (hb:Below w.heap.size w w'):zBr Tryz.prog 304 w' b es:=h.below hb h.lt
theorem aggs_held (a:Arg) (es:List En) (w:World) (hE:zAt w a es) (hs:zAQ a) (hes:∀ e∈es,SmallE e) (hn:a.n<=1000000000000) :
  Calls Tryz.prog 274 #[a.agg] w fun e w'=>∃ b,e=.returned (.map (some b))/\zBr Tryz.prog 304 w' b (heldP a es)/\w.heap.size<=b/\Below w.heap.size w w':=by
 obtain⟨hel,her⟩:=hE
 obtain⟨Ae,hAe⟩:∃ Ae,a.ents=Ae:=⟨_,rfl⟩
 rw[hAe] at her
 have HER:=zh her
 have HES:=zh hes
 have HSA:=zh hs
 have hmk:= @run_makeMap Tryz.prog
 clear her hes hs
 unfold Arg.agg
 rw[hAe]
 clear hAe
 go_enter Tryz.func274,Tryz.ntmps274
 go_wp2
 go_loopw [10] (fun t wr=>∃ j:Nat,j<=a.n/\t=.int .i64 j/\zBr Tryz.prog 304 wr (w.heap.size+1) (heldP a (es.take j))/\Below (w.alloc (argO a Ae)).heap.size (w.alloc (argO a Ae)) wr) (fun t _=>a.n-(intOf t).toNat)
 case atStart =>
  refine⟨0,Nat.zero_le _,rfl,?_,zBx (Below.refl _ _) _ (Nat.le_refl _)⟩
  have h:=zBr.made Tryz.prog 304 (w.alloc (argO a Ae))
  rw[World.size_alloc] at h
  exact h
 case round =>
  obtain⟨j,hj,rfl,hM,hB⟩:=hrel
  have hb2:Below w.heap.size w wr:=(show Below w.heap.size w (w.alloc (argO a Ae)) from bel).trans (hB.mono (by simp))
  have pc:∀ i u,(#[Value.bool a.many,.int .i64 a.val.tag,.int .i64 a.val.num,.string a.val.str,.bool a.val.is,.int .i64 a.val.code,.int .i64 a.top,.int .i64 a.left,.int .i64 a.bottom,.int .i64 a.right,.slice Ae a.n a.c]:Array Value).toList[i]? =some u->wr.cell? ⟨w.heap.size,i,none⟩=some u:=fun i u hu=>((AtB.new (w:=w) (t:=91) rfl).below hB) i u hu
  have p6:=pc 6 _ rfl
  have p7:=pc 7 _ rfl
  have hbl:=hM.lt
  have hbw:w.heap.size<wr.heap.size:=by omega
  have HM:=zh hM
  have HB:=zh hB
  have HB2:=zh hb2
  clear pc hM hB hb2
  by_cases hlt:j<a.n
  ·obtain⟨x,hx⟩:∃ x,es[j]? =some x:=⟨_,List.getElem?_eq_getElem (show j<es.length by omega)⟩
   obtain⟨bk,off,rfl,_,hc⟩:=HER.out.2 (by omega)
   have hcell:∀ i u,x.cells[i]? =some u->wr.cell? ⟨bk,off+(j*7+i),none⟩=some u:=fun i u hu=>by
    have h1:=hc _ u (zA9 En.cells 7 (fun _=>rfl) es j x hx i u hu)
    exact(HB2.out.cell (p:=⟨bk,_,none⟩) (World.block_lt_of_cell? w _ h1)).trans h1
   have e0:=hcell 0 _ rfl
   have e1:=hcell 1 _ rfl
   have e2:=hcell 2 _ rfl
   have e3:=hcell 3 _ rfl
   have e4:=hcell 4 _ rfl
   have e5:=hcell 5 _ rfl
   have e6:=hcell 6 _ rfl
   simp only[<- Nat.add_assoc,Nat.add_zero] at e0 e1 e2 e3 e4 e5 e6
   have hbr:=cltK e0
   have hsx:=HES.out x (List.mem_of_getElem? hx)
   have hsa:=HSA.out
   unfold SmallE at hsx
   unfold zAQ at hsa
   have s1:wrap64 (x.row-a.top)=x.row-a.top:=wr64 (by omega) (by omega)
   have s2:wrap64 (x.col-a.left)=x.col-a.left:=wr64 (by omega) (by omega)
   have HOK:=zh (show Ok64 (plE a x) from ⟨⟨by unfold plE;simp only;omega,by unfold plE;simp only;omega⟩,⟨by unfold plE;simp only;omega,by unfold plE;simp only;omega⟩⟩)
   have HX:=zh (show heldP a (es.take j)++[(plE a x,elV x.v)]=heldP a (es.take (j+1)) by rw[zAn hx];simp[heldP])
   have hll:(heldP a (es.take j)).length<=j:=by unfold heldP;rw[List.length_map,List.length_take];omega
   clear hcell hc hx hsx hsa
   go_wp2_with(refine wpList_updateP _ rfl 301 _ _ _ rfl 304 44 place_key Tryz.underlying301 (w.heap.size+1) _ rfl (HM.out.at0 bel) ?_ (plE a x) rfl HOK.out (elV x.v) rfl ?_)
   ·simp only[maxLen];omega
   ·intro w2 hM2 hg
    rw[HX.out] at hM2
    have HM2:=zh hM2
    have HB3:=zh ((HB.out.trans ((show Below wr.heap.size wr _ from bel).mono HB.out.size)).grown hg (by have:=HB.out.size;simp at this ⊢;omega) (fun k e=>by cases e;simp))
    clear hM2 hg HM e0 e1 e2 e3 e4 e5 e6
    go_wp2
    go_roundw
    case rel=>exact⟨j+1,by omega,by go_num,HM2.out,HB3.out⟩
    case measure=>simp[intOf];omega
  ·obtain rfl:j=a.n:=by omega
   have hM:=HM.out
   rw[List.take_of_length_le (by omega)] at hM
   have HM2:=zh hM
   clear hM HM
   go_wp2
   go_returns
   exact⟨_,rfl,HM2.out,by omega,HB2.out⟩
def countifG (a:Arg) (es:List En) (v:V):V:=numG (((if v.tag=0 then zBm a*zBl a-a.n else 0)+(es.countP fun e=>eqB e.v v:Nat))*10000)
theorem aggs_ROWS (a:Arg) (b off c:Nat) (tx:Int) (w:World) (hc:∀ i u,a.cells[i]? =some u->w.cell? ⟨b,off+i,none⟩=some u) (hs:zAQ a) :
  Rt 221 #[.slice (some ⟨b,off,none⟩) 1 c,.int .i64 tx] w (vG (numG (zBm a*10000))):=by
 have HR:=zh (aggs_rows a hs)
 have HW:=zh (aggs_whole (zBm a) (by unfold zBm;unfold zAQ at hs;omega) (by unfold zBm;unfold zAQ at hs;omega))
 have c0:=hc 0 _ rfl
 have c1:=hc 1 _ rfl
 have c2:=hc 2 _ rfl
 have c3:=hc 3 _ rfl
 have c4:=hc 4 _ rfl
 have c5:=hc 5 _ rfl
 have c6:=hc 6 _ rfl
 have c7:=hc 7 _ rfl
 have c8:=hc 8 _ rfl
 have c9:=hc 9 _ rfl
 have c10:=hc 10 _ rfl
 have hb:=cltK c0
 rw[Nat.add_zero] at c0
 clear hc hs
 go_enter Tryz.func221,Tryz.ntmps221
 go_wp2_with(first|(go_at_call 223;refine mB (HR.out _) ?_;intro l3 q3)|(go_at_call 222;refine mB (HW.out _) ?_;intro l4 q4))
 all_goals go_returns
 all_goals exact⟨rfl,bel⟩
theorem aggs_COLS (a:Arg) (b off c:Nat) (tx:Int) (w:World) (hc:∀ i u,a.cells[i]? =some u->w.cell? ⟨b,off+i,none⟩=some u) (hs:zAQ a) :
  Rt 224 #[.slice (some ⟨b,off,none⟩) 1 c,.int .i64 tx] w (vG (numG (zBl a*10000))):=by
 have HR:=zh (aggs_cols a hs)
 have HW:=zh (aggs_whole (zBl a) (by unfold zBl;unfold zAQ at hs;omega) (by unfold zBl;unfold zAQ at hs;omega))
 have c0:=hc 0 _ rfl
 have c1:=hc 1 _ rfl
 have c2:=hc 2 _ rfl
 have c3:=hc 3 _ rfl
 have c4:=hc 4 _ rfl
 have c5:=hc 5 _ rfl
 have c6:=hc 6 _ rfl
 have c7:=hc 7 _ rfl
 have c8:=hc 8 _ rfl
 have c9:=hc 9 _ rfl
 have c10:=hc 10 _ rfl
 have hb:=cltK c0
 rw[Nat.add_zero] at c0
 clear hc hs
 go_enter Tryz.func224,Tryz.ntmps224
 go_wp2_with(first|(go_at_call 225;refine mB (HR.out _) ?_;intro l3 q3)|(go_at_call 222;refine mB (HW.out _) ?_;intro l4 q4))
 all_goals go_returns
 all_goals exact⟨rfl,bel⟩
theorem aggs_countif (a:Arg) (es:List En) (v:V) (w:World) (hE:zAt w a es) (hs:zAQ a) (hn:a.n<=1000000000) :
  Rt 214 #[a.agg,(vG v)] w (vG (countifG a es v)):=by
 obtain⟨hel,her⟩:=hE
 have hrc: -50000000000<=zBm a*zBl a/\zBm a*zBl a<=50000000000:=by
  have h1: -200001<=zBm a/\zBm a<=200001:=by unfold zBm;unfold zAQ at hs;omega
  have h2: -200001<=zBl a/\zBl a<=200001:=by unfold zBl;unfold zAQ at hs;omega
  have h3:(zBm a*zBl a).natAbs<=200001*200001:=by rw[Int.natAbs_mul];exact Nat.mul_le_mul (by omega) (by omega)
  omega
 have HRW:=zh (aggs_rows a hs)
 have HCL:=zh (aggs_cols a hs)
 unfold countifG
 obtain⟨ra,hra⟩:∃ ra,zBm a=ra:=⟨_,rfl⟩
 obtain⟨ca,hca⟩:∃ ca,zBl a=ca:=⟨_,rfl⟩
 rw[hra] at HRW
 rw[hca] at HCL
 rw[hra,hca] at hrc ⊢
 obtain⟨z,hz⟩:∃ z,(if v.tag=0 then ra*ca-a.n else 0)=z:=⟨_,rfl⟩
 rw[hz]
 have HZ:=zh hz
 have HRC:=zh hrc
 clear hra hca hs hz hrc
 obtain⟨Ae,hAe⟩:∃ Ae,a.ents=Ae:=⟨_,rfl⟩
 obtain⟨n,hnn⟩:∃ n,a.n=n:=⟨_,rfl⟩
 rw[hAe,hnn] at her
 rw[hnn] at hel hn
 have HER:=zh her
 have HZ:=zh (show (if v.tag=0 then ra*ca-(n:Int) else 0)=z by rw[<- hnn];exact HZ.out)
 unfold Arg.agg at *
 rw[hAe,hnn] at HRW HCL ⊢
 clear her hAe hnn
 have hq:=fun (x:V)=>eqlV x.tag x.num x.str x.is x.code v.tag v.num v.str v.is v.code
 have HQ:=zh hq
 clear hq
 go_enter Tryz.func214,Tryz.ntmps214
 by_cases hv:v.tag=0
 ·have hv':(v.tag==0)=true:=by simp[hv]
  have hz:ra*ca-(n:Int)=z:=by have:=HZ.out;rw[if_pos hv] at this;exact this
  have w1:wrap64 (ra*ca)=ra*ca:=wr64 (by have:=HRC.out;omega) (by have:=HRC.out;omega)
  have w2:wrap64 (ra*ca-(n:Int))=z:=by rw[hz];exact wr64 (by have:=HRC.out;omega) (by have:=HRC.out;omega)
  have hzb: -60000000000<=z/\z<=60000000000:=by have:=HRC.out;omega
  clear hv hz
  go_wp2
  all_goals(refine qmI ?_;(repeat(go_big_quiet_step (first|(go_at_call 223;exact Calls.zA6 (HRW.out _))|(go_at_call 225;exact Calls.zA6 (HCL.out _)))));refine qmE ?_;intro lq nq)
  all_goals go_wp2
  obtain⟨W2,hW2⟩:∃ W2,W2=((w.alloc (.cells #[.bool a.many,.int .i64 a.val.tag,.int .i64 a.val.num,.string a.val.str,.bool a.val.is,.int .i64 a.val.code,.int .i64 a.top,.int .i64 a.left,.int .i64 a.bottom,.int .i64 a.right,.slice Ae n a.c] 91)).alloc (.cells #[.int .i64 v.tag,.int .i64 v.num,.string v.str,.bool v.is,.int .i64 v.code] 44)).alloc zObj:=⟨_,rfl⟩
  have HW2:=zh hW2
  have HBW:=zh (show Below w.heap.size w W2 by rw[hW2];exact bel)
  have HV:=zh (show ∀ i u,v.cells[i]? =some u->W2.cell? ⟨w.heap.size+1,i,none⟩=some u from fun i u hu=>by
   have h1:=(AtB.new (w:=w.alloc (.cells #[.bool a.many,.int .i64 a.val.tag,.int .i64 a.val.num,.string a.val.str,.bool a.val.is,.int .i64 a.val.code,.int .i64 a.top,.int .i64 a.left,.int .i64 a.bottom,.int .i64 a.right,.slice Ae n a.c] 91)) (cs:=#[.int .i64 v.tag,.int .i64 v.num,.string v.str,.bool v.is,.int .i64 v.code]) (t:=44) (p:=w.heap.size+1) (by simp)).zAv zObj
   rw[hW2]
   exact h1 i u hu)
  have hsz2:W2.heap.size=w.heap.size+3:=by rw[hW2];simp
  clear hW2
  go_loopw [23,5] (fun t m wr=>∃ j:Nat,j<=n/\t=.int .i64 j/\m=.int .i64 (z+((es.take j).countP fun e=>eqB e.v v:Nat))/\Below W2.heap.size W2 wr) (fun t _ _=>n-(intOf t).toNat)
  case atStart=>exact⟨0,Nat.zero_le _,rfl,by rw[w2];simp,by rw[HW2.out];exact zAi (Nat.le_refl _)⟩
  case round =>
   obtain⟨j,hj,rfl,rfl,hB⟩:=hrel
   have hws:=hB.size
   have hb2:Below w.heap.size w wr:=HBW.out.trans (hB.mono HBW.out.size)
   have hv:∀ i u,v.cells[i]? =some u->wr.cell? ⟨w.heap.size+1,i,none⟩=some u:=fun i u hu=>cell_below (HV.out i u hu) hB
   have v0:=hv 0 _ rfl
   have v1:=hv 1 _ rfl
   have v2:=hv 2 _ rfl
   have v3:=hv 3 _ rfl
   have v4:=hv 4 _ rfl
   have hvl:w.heap.size+1<wr.heap.size:=by omega
   have hcj:((es.take j).countP fun e=>eqB e.v v)<=j:=Nat.le_trans List.countP_le_length (by rw[List.length_take];omega)
   have HB:=zh hB
   have HB2:=zh hb2
   clear hv hB hb2
   by_cases hlt:j<n
   ·obtain⟨x,hx⟩:∃ x,es[j]? =some x:=⟨_,List.getElem?_eq_getElem (show j<es.length by omega)⟩
    obtain⟨bk,off,rfl,_,hc⟩:=HER.out.2 (by omega)
    have hcell:∀ i u,x.cells[i]? =some u->wr.cell? ⟨bk,off+(j*7+i),none⟩=some u:=fun i u hu=>by
     have h1:=hc _ u (zA9 En.cells 7 (fun _=>rfl) es j x hx i u hu)
     exact(HB2.out.cell (p:=⟨bk,_,none⟩) (World.block_lt_of_cell? w _ h1)).trans h1
    have e0:=hcell 0 _ rfl
    have e1:=hcell 1 _ rfl
    have e2:=hcell 2 _ rfl
    have e3:=hcell 3 _ rfl
    have e4:=hcell 4 _ rfl
    have e5:=hcell 5 _ rfl
    have e6:=hcell 6 _ rfl
    simp only[<- Nat.add_assoc,Nat.add_zero] at e0 e1 e2 e3 e4 e5 e6
    have hbr:=cltK e0
    have hcs:((es.take (j+1)).countP fun e=>eqB e.v v)=((es.take j).countP fun e=>eqB e.v v)+(if eqB x.v v then 1 else 0):=by rw[zAn hx,List.countP_append];simp[List.countP_cons]
    have hqx:=HQ.out x.v
    obtain⟨bz,hbz⟩:∃ bz,eqB x.v v=bz:=⟨_,rfl⟩
    rw[hbz] at hcs
    rw[show eqB ⟨x.v.tag,x.v.num,x.v.str,x.v.is,x.v.code⟩ ⟨v.tag,v.num,v.str,v.is,v.code⟩=bz from hbz] at hqx
    obtain⟨m,hm⟩:∃ m,((es.take j).countP fun e=>eqB e.v v)=m:=⟨_,rfl⟩
    rw[hm] at hcs hcj ⊢
    have HCS:=zh hcs
    have w3:wrap64 (z+(m:Int)+1)=z+(m:Int)+1:=wr64 (by omega) (by omega)
    clear hcell hc hx hcs hbz hm
    cases bz
    all_goals go_wp2
    all_goals go_roundw
    case rel=>exact⟨j+1,by omega,by go_num,by rw[HCS.out];simp,HB.out.trans ((show Below wr.heap.size wr _ from bel).mono HB.out.size)⟩
    case measure=>simp[intOf];omega
    case rel=>exact⟨j+1,by omega,by go_num,by rw[HCS.out];simp;omega,HB.out.trans ((show Below wr.heap.size wr _ from bel).mono HB.out.size)⟩
    case measure=>simp[intOf];omega
   ·obtain rfl:j=n:=by omega
    rw[List.take_of_length_le (by omega)] at hcj ⊢
    obtain⟨m,hm⟩:∃ m,(es.countP fun e=>eqB e.v v)=m:=⟨_,rfl⟩
    have HM:=zh hm
    rw[hm] at hcj ⊢
    obtain⟨l0,q0,hwe⟩:=zA0 HB.out
    subst hwe
    have hW2:=HW2.out
    subst hW2
    clear hm v0 v1 v2 v3 v4
    go_wp2_with(go_at_call 222;refine mB (aggs_whole _ (by omega) (by omega) _) ?_;intro l3 q3)
    all_goals go_returns
    all_goals exact⟨by rw[HM.out],bel⟩
 ·have hv':(v.tag==0)=false:=by simp[hv]
  have hz:0=z:=by have:=HZ.out;rw[if_neg hv] at this;exact this
  have hzb: -60000000000<=z/\z<=60000000000:=by omega
  have HZ0:=zh hz
  clear hv hz
  go_wp2
  obtain⟨W2,hW2⟩:∃ W2,W2=((w.alloc (.cells #[.bool a.many,.int .i64 a.val.tag,.int .i64 a.val.num,.string a.val.str,.bool a.val.is,.int .i64 a.val.code,.int .i64 a.top,.int .i64 a.left,.int .i64 a.bottom,.int .i64 a.right,.slice Ae n a.c] 91)).alloc (.cells #[.int .i64 v.tag,.int .i64 v.num,.string v.str,.bool v.is,.int .i64 v.code] 44)).alloc zObj:=⟨_,rfl⟩
  have HW2:=zh hW2
  have HBW:=zh (show Below w.heap.size w W2 by rw[hW2];exact bel)
  have HV:=zh (show ∀ i u,v.cells[i]? =some u->W2.cell? ⟨w.heap.size+1,i,none⟩=some u from fun i u hu=>by
   have h1:=(AtB.new (w:=w.alloc (.cells #[.bool a.many,.int .i64 a.val.tag,.int .i64 a.val.num,.string a.val.str,.bool a.val.is,.int .i64 a.val.code,.int .i64 a.top,.int .i64 a.left,.int .i64 a.bottom,.int .i64 a.right,.slice Ae n a.c] 91)) (cs:=#[.int .i64 v.tag,.int .i64 v.num,.string v.str,.bool v.is,.int .i64 v.code]) (t:=44) (p:=w.heap.size+1) (by simp)).zAv zObj
   rw[hW2]
   exact h1 i u hu)
  have hsz2:W2.heap.size=w.heap.size+3:=by rw[hW2];simp
  clear hW2
  go_loopw [23,5] (fun t m wr=>∃ j:Nat,j<=n/\t=.int .i64 j/\m=.int .i64 (z+((es.take j).countP fun e=>eqB e.v v:Nat))/\Below W2.heap.size W2 wr) (fun t _ _=>n-(intOf t).toNat)
  case atStart=>exact⟨0,Nat.zero_le _,rfl,by rw[<- HZ0.out];rfl,by rw[HW2.out];exact Below.refl _ _⟩
  case round =>
   obtain⟨j,hj,rfl,rfl,hB⟩:=hrel
   have hws:=hB.size
   have hb2:Below w.heap.size w wr:=HBW.out.trans (hB.mono HBW.out.size)
   have hv:∀ i u,v.cells[i]? =some u->wr.cell? ⟨w.heap.size+1,i,none⟩=some u:=fun i u hu=>cell_below (HV.out i u hu) hB
   have v0:=hv 0 _ rfl
   have v1:=hv 1 _ rfl
   have v2:=hv 2 _ rfl
   have v3:=hv 3 _ rfl
   have v4:=hv 4 _ rfl
   have hvl:w.heap.size+1<wr.heap.size:=by omega
   have hcj:((es.take j).countP fun e=>eqB e.v v)<=j:=Nat.le_trans List.countP_le_length (by rw[List.length_take];omega)
   have HB:=zh hB
   have HB2:=zh hb2
   clear hv hB hb2
   by_cases hlt:j<n
   ·obtain⟨x,hx⟩:∃ x,es[j]? =some x:=⟨_,List.getElem?_eq_getElem (show j<es.length by omega)⟩
    obtain⟨bk,off,rfl,_,hc⟩:=HER.out.2 (by omega)
    have hcell:∀ i u,x.cells[i]? =some u->wr.cell? ⟨bk,off+(j*7+i),none⟩=some u:=fun i u hu=>by
     have h1:=hc _ u (zA9 En.cells 7 (fun _=>rfl) es j x hx i u hu)
     exact(HB2.out.cell (p:=⟨bk,_,none⟩) (World.block_lt_of_cell? w _ h1)).trans h1
    have e0:=hcell 0 _ rfl
    have e1:=hcell 1 _ rfl
    have e2:=hcell 2 _ rfl
    have e3:=hcell 3 _ rfl
    have e4:=hcell 4 _ rfl
    have e5:=hcell 5 _ rfl
    have e6:=hcell 6 _ rfl
    simp only[<- Nat.add_assoc,Nat.add_zero] at e0 e1 e2 e3 e4 e5 e6
    have hbr:=cltK e0
    have hcs:((es.take (j+1)).countP fun e=>eqB e.v v)=((es.take j).countP fun e=>eqB e.v v)+(if eqB x.v v then 1 else 0):=by rw[zAn hx,List.countP_append];simp[List.countP_cons]
    have hqx:=HQ.out x.v
    obtain⟨bz,hbz⟩:∃ bz,eqB x.v v=bz:=⟨_,rfl⟩
    rw[hbz] at hcs
    rw[show eqB ⟨x.v.tag,x.v.num,x.v.str,x.v.is,x.v.code⟩ ⟨v.tag,v.num,v.str,v.is,v.code⟩=bz from hbz] at hqx
    obtain⟨m,hm⟩:∃ m,((es.take j).countP fun e=>eqB e.v v)=m:=⟨_,rfl⟩
    rw[hm] at hcs hcj ⊢
    have HCS:=zh hcs
    have w3:wrap64 (z+(m:Int)+1)=z+(m:Int)+1:=wr64 (by omega) (by omega)
    clear hcell hc hx hcs hbz hm
    cases bz
    all_goals go_wp2
    all_goals go_roundw
    case rel=>exact⟨j+1,by omega,by go_num,by rw[HCS.out];simp,HB.out.trans ((show Below wr.heap.size wr _ from bel).mono HB.out.size)⟩
    case measure=>simp[intOf];omega
    case rel=>exact⟨j+1,by omega,by go_num,by rw[HCS.out];simp;omega,HB.out.trans ((show Below wr.heap.size wr _ from bel).mono HB.out.size)⟩
    case measure=>simp[intOf];omega
   ·obtain rfl:j=n:=by omega
    rw[List.take_of_length_le (by omega)] at hcj ⊢
    obtain⟨m,hm⟩:∃ m,(es.countP fun e=>eqB e.v v)=m:=⟨_,rfl⟩
    have HM:=zh hm
    rw[hm] at hcj ⊢
    obtain⟨l0,q0,hwe⟩:=zA0 HB.out
    subst hwe
    have hW2:=HW2.out
    subst hW2
    clear hm v0 v1 v2 v3 v4
    go_wp2_with(go_at_call 222;refine mB (aggs_whole _ (by omega) (by omega) _) ?_;intro l3 q3)
    all_goals go_returns
    all_goals exact⟨by rw[HM.out],bel⟩
end Go.Proofs.YtppghgnhlgoagaaGreatDoor
