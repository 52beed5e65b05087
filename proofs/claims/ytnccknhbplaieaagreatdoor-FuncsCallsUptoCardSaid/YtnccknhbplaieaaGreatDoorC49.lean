/- Parts. -/
import Derived.Test.YtnccknhbplaieaaGreatDoorC44
import Derived.Test.YtnccknhbplaieaaGreatDoorC45
import Derived.Test.YtnccknhbplaieaaGreatDoorC47
set_option linter.all false
set_option maxRecDepth 100000
set_option maxHeartbeats 4000000
namespace Go.Proofs.YtnccknhbplaieaaGreatDoor
open Go Go.RowKit Go.Proofs.Tryz
open Go.Lib renaming hid->zh
open _root_.List renaming length_map->Q3,range->Q4,getElem?_eq_some_iff->Q7,mem_map->Q8,getElem?_map->Q9,getElem?_of_mem->QA,mem_cons_of_mem->QB,length_append->QC,getElem?_eq_getElem->QE,all_eq_true->QF,take_of_length_le->QI,countP_le_length->QJ,flatMap_cons->QK,not_mem_nil->QL
open _root_.Bool renaming and_eq_true->Q5
open _root_.Nat renaming add_assoc->QD,add_zero->QH
open Go.World renaming block_lt_of_cell?->QG
def aggsVals (s:ByteArray) (tx:Int) (vs:List V) (pl:List (Arg×List En)):V:=match vs.find? isF with
 | some v=>v
 | none=>aggDo s tx pl
def zBj (s:ByteArray) (al:List Arg) (pl:List (Arg×List En)) (ok:Nat->Bool) (tx:Int):V :=
 if tx<0∨1024<tx then errG 8
 else if (Q4 al.length).all ok then if zAy s (al.map Arg.many) then aggsVals s tx (al.map Arg.val) pl else errG 8 else errG 8
theorem ite_keyA {α:Type} {p:Prop} [Decidable p] {a r:α} {b:Option α} (h:(if p then some a else b)=some r):a=r∨b=some r:=by
 by_cases hp:p
 ·rw[if_pos hp] at h;exact .inl (Option.some.inj h)
 ·rw[if_neg hp] at h;exact .inr h
theorem aggTab_bounds {s c:ByteArray} {x y:Int} (h:zAV s=some (c,x,y)):1<=x/\y<=16:=by
 unfold zAV at h
 iterate 18
  rcases ite_keyA h with e|h
  ·cases e;decide
 cases h
theorem takesA_len {s:ByteArray} {xs:List Bool} (h:zAy s xs=true):∃ c x y,zAV s=some (c,x,y)/\(x<=(xs.length:Int)/\(xs.length:Int)<=y)/\1<=xs.length/\xs.length<=16/\zAo c xs xs.length=true:=by
 unfold zAy at h;cases e:zAV s with
 | none=>rw[e] at h;cases h
 | some p =>
   obtain⟨c,x,y⟩:=p;rw[e] at h;simp only[Q5,decide_eq_true_eq] at h;have:=aggTab_bounds e;exact⟨c,x,y,rfl,h.1,by omega,by omega,h.2⟩
theorem aggs_Call (s:ByteArray) (al:List Arg) (pl:List (Arg×List En)) (hal:al=pl.map Prod.fst) (A:Option Addr) (n c:Nat) (tx:Int) (w:World) (hr:Reads w w.heap.size 11 A n (zAY al)) (hm:n<=1000000000000) (hcap:n<=c) (h64:∀ a∈al,Is64 a.val.num) (ok:Nat->Bool)
  (hok:∀ j a,al[j]? =some a->∀ W,Below w.heap.size w W->Rt 154 #[a.agg] W (.bool (ok j)))
  (hokA:∀ j p,pl[j]? =some p->ok j=argOk p.1 p.2) (hE:∀ p∈pl,zAW w p.1 p.2) (h64e:∀ p∈pl,∀ e∈p.2,Is64 e.v.num) (hT:n<=16->(zA2 pl).length<=20000000) (hsz:∀ q∈pl,q.1.val.str.size<=1048576/\∀ e∈q.2,e.v.str.size<=1048576) (hn9:∀ q∈pl,q.1.n<=1000000000) (hp:Pow10 w) :
  Rt 82 #[.string s,.slice A n c,.int .i64 tx] w (vG (zBj s al pl ok tx)):=by
 have hF:=zh (show (∀ k,k<al.length->ok k=true)->n<=16->(ArgsAt w pl A n/\(zA2 pl).length<=20000000) from fun h h16=>⟨⟨by rw[<- hal];exact hr,hE,by have:=hT h16;omega,hm,fun p hp=>by have:=hn9 p hp;omega,fun p hp=>⟨h64 p.1 (by rw[hal];exact List.mem_map_of_mem hp),h64e p hp⟩,fun p hp=>by
  obtain⟨j,hj⟩:=QA hp;rw[<- hokA j p hj];exact h j (by rw[hal,Q3];exact(Q7.1 hj).1)⟩,hT h16⟩)
 have Hz:=zh hsz;have Hw:=zh hn9;have HP:=zh hp;have He:=zh hal;clear hokA hE h64e hT hsz hn9 hp hal;have hJ:al.length=n:=by
  have:=hr.1;rw[zAN] at this;omega
 obtain⟨bs,hS⟩:∃ bs,bs=(al.map Arg.many).map Value.bool:=⟨_,rfl⟩
 have hbl:bs.length=n:=by rw[hS];simp[hJ]
 have Hm:∀ (j:Nat) (x:Arg),al[j]? =some x->bs[j]? =some (.bool x.many):=fun j x hx=>by rw[hS,Q9,Q9,hx];rfl
 obtain⟨R,hR⟩:=lt_ (zBj s al pl ok tx);rw[hR];have Ht:=zh Hm;have Hs:=zh hS;have HR:=zh hr;have Hh:=zh hok;have hA:=zh hR;have H64:=zh h64;have hd:=zh hJ;clear Hm hS hr hok hR h64;obtain⟨i0,hi,HI,HJ,HK⟩:=info_parts info_B;by_cases ht0:tx<0
 have hs:=zh (show R=errG 8 by rw[<- hA.out];exact if_pos (.inl ht0))
 rotate_left
 by_cases ht1:1024<tx
 have hs:=zh (show R=errG 8 by rw[<- hA.out];exact if_pos (.inr ht1))
 rotate_left
 ·have hA:=zh (show (if (Q4 al.length).all ok then if zAy s (al.map Arg.many) then aggsVals s tx (al.map Arg.val) pl else errG 8 else errG 8)=R from (if_neg (show ¬ (tx<0∨1024<tx) by omega)).symm.trans hA.out);go_enter func82,ntmps82;go_wp2
  go_loopw [23,7] (fun t v wr=>∃ j:Nat,j<=n/\t=.int .i64 j/\(∀ k,k<j->ok k=true)/\zAA (w.alloc zeroV) wr 4 1 v j (bs.take j)) (fun t _ _=>n-(intOf t).toNat)
  case atStart=>exact⟨0,Nat.zero_le _,rfl,fun k hk=>by omega,Below.refl _ _,World.ownsRow_nil _ _ _ _⟩
  case round =>
   obtain⟨j,hj,rfl,hh,hG⟩:=hrel;have hw:Below w.heap.size w (w.alloc zeroV):=bel;have hy:Below w.heap.size w wr:=hw.trans (hG.1.mono hw.size);have Hd:=hy.size;have hH:=zh hy;have hg:=zh hh;have HG:=zh hG;clear hh hG hy hw;by_cases hlt:j<n
   obtain⟨a,ha⟩:∃ a,al[j]? =some a:=⟨_,QE (show j<al.length by omega)⟩
   obtain⟨bk,off,rfl,_,hc⟩:=HR.out.2 (by omega);have he:∀ i u,a.cells[i]? =some u->wr.cell? ⟨bk,off+(j*11+i),none⟩=some u:=fun i u hu=>by
    have h1:=hc _ u (zAP al j a ha i u hu);exact(hH.out.cell (p:=⟨bk,_,none⟩) (QG w _ h1)).trans h1
   obtain⟨c0,c1,c2,c3,c4,c5,c6,c7,c8,c9,c10⟩:=tkB he;simp only[<- QD,QH] at c0 c1 c2 c3 c4 c5 c6 c7 c8 c9 c10;have Ha:=cltK c0;have hW:=zh (fun i u (hu:a.cells[i]? =some u)=>hc _ u (zAP al j a ha i u hu));clear he hc;have Hr:=zh ha;have hv:=Hh.out j a ha;obtain⟨z,hz⟩:=lt_ (ok j);rw[hz] at hv;have Hg:=zh (fun W (hB:Below wr.heap.size wr W)=>hv W (hH.out.trans (hB.mono Hd)));clear hv ha;cases z;have hs:=zh (show R=errG 8 by rw[<- hA.out,hd.out,all_no hlt hz];rfl);clear hz;obtain⟨l0,q0,hL⟩:=zA0 HG.out.1;subst hL;unfold zeroV at *;clear c0 c1 c2 c3 c4 c5 c6 c7 c8 c9 c10 Ha;obtain⟨c0,c1,c2,c3,c4,c5,c6,c7,c8,c9,c10⟩:=tkB hW.out;simp only[<- QD,QH] at c0 c1 c2 c3 c4 c5 c6 c7 c8 c9 c10;have hI:=cltK c0
   rotate_left
   ·have HZ:=zh hz;clear hz;go_wp2_with(first|(go_at_call 154;refine mB (Hg.out _ bel) ?_;intro l2 q2)|(at_builtin;refine wpList_append_own _ rfl _ _ 61 rfl (w.alloc zeroV).heap.size 4 i0 _ 1 1 underlying61 hi HI HJ HK rfl (by decide) _ _ _ rfl (own_below HG.out.2 bel) _ 1 1 [.bool a.many] rfl rfl ?_ ?_ ?_ ?_ ?_ ?_))
    ·exact fun i u hu=>zAO (by simp) i u hu
    ·intro u hu;simp only[List.mem_cons,QL,or_false] at hu;subst hu;rfl
    ·simp only[maxLen];omega
    ·omega
    ·have h1:=HG.out.1.size;simp at h1 ⊢;omega
    ·intro v' w3 hq ho _;have R:=zAA.step HG.out bel (show w3.ownsRow (w.alloc zeroV).heap.size 4 1 v' (j+1) (bs.take j++[.bool a.many]) from by simpa using hq) ho;rw[<- zAJ (Ht.out j a Hr.out)] at R;have Hu:=zh R;clear hq ho R HG c0 c1 c2 c3 c4 c5 c6 c7 c8 c9 c10;go_wp2;go_roundw;case rel=>exact⟨j+1,by omega,by go_num,fun k hk=>by (by_cases e:k=j;(subst e;exact HZ.out);exact hg.out k (by omega)),Hu.out⟩
     case measure=>simp[intOf];omega
   obtain rfl:j=n:=by omega
   have hG:=HG.out;rw[QI (by omega)] at hG;obtain⟨hB,hO⟩:=hG;obtain⟨xsB,hM⟩:∃ xsB,xsB=al.map Arg.many:=⟨_,rfl⟩
   rw[Hs.out,<-hM] at hO;obtain⟨A',c',rfl⟩:=zAB hO;have Hi:=zh (Reads.zAC hO);have hh:(Q4 al.length).all ok=true:=by
    rw[hd.out,QF];intro k hk;exact hg.out k (List.mem_range.1 hk)
   have hg:=zh (show ∀ k,k<al.length->ok k=true from fun k hk=>hg.out k (by have:=hd.out;omega));obtain⟨tk,Hc⟩:=lt_ (zAy s xsB);have hQ:R=if tk then aggsVals s tx (al.map Arg.val) pl else errG 8:=by rw[<- hA.out,if_pos hh,<-hM,Hc]
   have hY:=zh Hc;have Hq:xsB.length=j:=by rw[hM,Q3,hd.out]
   have Hj:=zh Hq;have HB:=zh hM;obtain⟨l0,q0,rfl⟩:=zA0 hB;clear hO hB HG hh hM Hc Hq hH Hd Hh;cases tk;have hs:=zh (show R=errG 8 from hQ);clear hQ;unfold zeroV at *
   rotate_left
   ·have hX:=zh (show R=aggsVals s tx (al.map Arg.val) pl from hQ);obtain⟨cK,x,y,ht,Hb,HH,hK,Ho⟩:=takesA_len hY.out;rw[Hj.out] at Ho;rw[Hj.out] at Hb HH hK;have HT:=zh ht;have Hf:=zh Hb;clear hQ ht Hb;obtain⟨vs,hV⟩:∃ vs,vs=al.map Arg.val:=⟨_,rfl⟩
    have Hp:∀ (j:Nat) (x:Arg),al[j]? =some x->vs[j]? =some x.val:=fun j x hx=>by rw[hV,Q9,hx];rfl
    have hvl:vs.length=j:=by rw[hV,Q3,hd.out]
    rw[<- hV] at hX;have HA:=zh Hp;clear Hp hV;obtain⟨n,hn⟩:∃ n,n=j:=⟨_,rfl⟩
    subst hn;go_wp2_with(go_at_call 81;refine(aggs_Takes s A' n c' xsB _ _ Hi.out (by omega)).mono ?_;rw[hY.out];rintro e w4 ⟨rfl,hb⟩;obtain⟨l4,q4,rfl⟩:=zA0 hb;clear hb)
    go_loopw [44] (fun t wr=>∃ j:Nat,j<=n/\t=.int .i64 j/\(vs.take j).find? isF=none/\Below (w.alloc zeroV).heap.size (w.alloc zeroV) wr) (fun t _=>n-(intOf t).toNat)
    case atStart=>exact⟨0,Nat.zero_le _,rfl,rfl,bel⟩
    case round =>
     obtain⟨j,hj,rfl,hC,hZ⟩:=hrel;have hw:Below w.heap.size w (w.alloc zeroV):=bel;have hy:Below w.heap.size w wr:=hw.trans (hZ.mono hw.size);have Hd:=hy.size;have hH:=zh hy;have hP:=zh hC;have hN:=zh hZ;clear hC hZ hy hw;by_cases hlt:j<n
     ·obtain⟨a,ha⟩:∃ a,al[j]? =some a:=⟨_,QE (show j<al.length by have:=hd.out;omega)⟩
      obtain⟨bk,off,rfl,_,hc⟩:=HR.out.2 (by omega);have he:∀ i u,a.cells[i]? =some u->wr.cell? ⟨bk,off+(j*11+i),none⟩=some u:=fun i u hu=>by
       have h1:=hc _ u (zAP al j a ha i u hu);exact(hH.out.cell (p:=⟨bk,_,none⟩) (QG w _ h1)).trans h1
      obtain⟨c0,c1,c2,c3,c4,c5,c6,c7,c8,c9,c10⟩:=tkB he;simp only[<- QD,QH] at c0 c1 c2 c3 c4 c5 c6 c7 c8 c9 c10;have Ha:=cltK c0;have hW:=zh (fun i u (hu:a.cells[i]? =some u)=>hc _ u (zAP al j a ha i u hu));clear he hc;have hU:=HA.out j a ha;clear ha;by_cases hf:a.val.tag=4
      ·have hs:=zh (show R=a.val by rw[hX.out];unfold aggsVals;rw[find_yes hU hP.out (by simp[isF,hf])]);have HD:(a.val.tag==4)=true:=by simp[hf]
       clear hf hU;obtain⟨l0,q0,hL⟩:=zA0 hN.out;subst hL;unfold zeroV at *;clear c0 c1 c2 c3 c4 c5 c6 c7 c8 c9 c10 Ha;obtain⟨c0,c1,c2,c3,c4,c5,c6,c7,c8,c9,c10⟩:=tkB hW.out;simp only[<- QD,QH] at c0 c1 c2 c3 c4 c5 c6 c7 c8 c9 c10;have hI:=cltK c0;go_wp2;all_goals(go_returns;exact⟨by rw[hs.out],bel⟩)
      ·have Hv:=zh (find_no hU hP.out (by simp[isF,hf]));have HD:(a.val.tag==4)=false:=by simp[hf]
       clear hf hU;go_wp2;go_roundw;case rel=>exact⟨j+1,by omega,by go_num,Hv.out,hN.out.trans ((show Below wr.heap.size wr _ from bel).mono hN.out.size)⟩
       case measure=>simp[intOf];omega
     ·obtain rfl:j=n:=by omega
      have hC:=hP.out;rw[QI (by omega)] at hC;have Hy:=zh (show R=aggDo s tx pl by rw[hX.out];unfold aggsVals;rw[hC]);clear hC hP;obtain⟨l5,q5,hL⟩:=zA0 hN.out;subst hL;obtain⟨n,hn⟩:∃ n,n=j:=⟨_,rfl⟩
      subst hn;obtain⟨Hk,Hl⟩:=hF.out (fun k hk=>hg.out k (by have:=hd.out;omega)) hK;have Hx:=zh Hk;unfold zeroV at *;go_wp2_with fail
      go_at_call 153
      refine(aggs_find_yes s cK x y HT.out _).mono ?_;rintro e wf ⟨⟨fn,first,cap,rfl,p1,Hn,hk⟩,hb⟩;obtain⟨l7,q7,rfl⟩:=zA0 hb;rw[zAQ] at hk ⊢;obtain⟨l,hl⟩:∃ l,l=l5++l7:=⟨_,rfl⟩
      rw[<- hl] at hk ⊢;clear hb hl;have hI:Below w.heap.size w (more (w.alloc zObj) l q7):=bel;have HF:pl.length=n:=by have:=hd.out;rw[He.out,Q3] at this;exact this
      have hD:=agg_do HT.out Hn hk pl A n c tx (by omega) (Hx.out.below hI) HF Hf.out.1 Hf.out.2 hcap (by have h1:=Ho;rw[HB.out,He.out,List.map_map] at h1;exact h1) Hl Hz.out Hw.out (HP.out.below hI (Nat.le_refl _));rw[<- Hy.out] at hD;rcases hD with ⟨k,rfl,rfl,rfl,HE,hc⟩|⟨k,p,rfl,rfl,rfl,HE,hc⟩
      all_goals
       have HC:=zh hc;clear hc hk Hn hI Hk Hl;go_wp2_with(with_reducible refine Calls.mono (HC.out _ bel) ?_;rintro e w5 ⟨rfl,hb⟩;obtain⟨l8,q8,rfl⟩:=zA0 hb;clear hb)
       all_goals(go_returns;exact rb_)
   all_goals
    go_wp2_with(first|(go_at_call 154;refine mB (Hg.out _ bel) ?_;intro l2 q2)|(go_at_call 13;refine mB (zA3 _ _) ?_;intro l3 q3)|(go_at_call 81;refine(aggs_Takes s A' j c' xsB _ _ Hi.out (by omega)).mono ?_;rw[hY.out];rintro e w4 ⟨rfl,hb⟩;obtain⟨l4,q4,rfl⟩:=zA0 hb;clear hb))
    all_goals(go_returns;exact⟨by rw[hs.out],bel⟩)
 all_goals
  go_enter func82,ntmps82;go_wp2_with(go_at_call 13;refine mB (zA3 _ _) ?_;intro l3 q3)
  all_goals(go_returns;exact⟨by rw[hs.out],bel⟩)
theorem join_is (text:Nat) (p:Arg×List En) (pl:List (Arg×List En)):joinG text p pl=((zA2 pl).find? isF).getD (joinX text (joinD (zAZ p.1.val).1.data.toList true (zA2 pl))):=by
 unfold joinG;refine(among_or (zA2 pl) (fun _=>joinGo text (zAZ p.1.val).1 (-((zAZ p.1.val).1.size:Int)) (zA2 pl) [])).trans ?_;cases h:(zA2 pl).find? isF with
 | some v=>rfl
 | none =>
   refine(join_told text (zAZ p.1.val).1 (zA2 pl) [] (-((zAZ p.1.val).1.size:Int)) (by rw[if_pos rfl];show _=((0:Nat):Int)-_;omega) (.inl rfl)).trans ?_;show _=joinX text (joinD (zAZ p.1.val).1.data.toList true (zA2 pl));unfold joinX;rw[show (joinS (zAZ p.1.val).1 []).size=0 from rfl,Nat.zero_add]
   rfl
theorem zBT {a:Arg} {es:List En} (h:argOk a es=true) (hm:a.many=true):a.val=zeroG/\zAm a.top a.left a.bottom a.right none es=true:=by
 unfold argOk at h;rw[if_pos hm] at h;simp only[Q5] at h;obtain⟨⟨_,h1⟩,h2⟩:=h;exact⟨of_decide_eq_true h1,h2⟩
theorem args_single {a:Arg} {es:List En} (h:argOk a es=true) (hm:a.many=false):mayG a.val=true:=by
 unfold argOk at h;rw[if_neg (by rw[hm];decide)] at h;simp only[Q5] at h;exact h.2
theorem faulty_vals10 {pl:List (Arg×List En)} (h:∀ p∈pl,argOk p.1 p.2=true):faultyA (pl.map Prod.fst)=((pl.map Prod.fst).map Arg.val).find? isF:=by
 unfold faultyA
 induction pl with
 | nil=>rfl
 | cons p pl ih =>
   have h1:=ih fun q hq=>h q (QB _ hq);rw[List.map_cons,List.map_cons,List.find?_cons,List.find?_cons];cases hm:p.1.many with
   | false =>
     cases hf:isF p.1.val with
     | true=>simp
     | false=>simpa using h1
   | true =>
     have h2:=(zBT (h p List.mem_cons_self) hm).1;rw[show isF p.1.val=false by rw[h2];rfl]
     simpa using h1
theorem may_63 {v:V} (hm:mayG v=true) (h:Is64 v.num):In63 v.num:=by
 by_cases h1:v.tag=1
 ·exact num_63 hm h h1
 ·have h0:v.num=0:=by
   unfold mayG at hm;simp only[Q5] at hm;have h2:=hm.1.2;unfold eqB at h2;have h3:=congrArg V.num (of_decide_eq_true h2);unfold bareG at h3
   simpa [h1] using h3
  rw[h0];unfold In63
  decide
theorem items_63 {w:World} {pl:List (Arg×List En)} {A:Option Addr} {n:Nat} (h:ArgsAt w pl A n):∀ v∈zA2 pl,In63 v.num:=fun v hv=>may_63 (items_may h v hv).1 (items_may h v hv).2
theorem kind_val10 {c:ByteArray} {xs:List Bool} {n i:Nat} (h:zAo c xs n=true) (hi:i<n) (hc:kindAt c i=118):xs.getD i false=false:=by
 have h1:=kinds_at h hi;unfold kindOk at h1;rw[hc] at h1
 simpa using h1
theorem count_in {a:Arg} {es:List En} (hs:zA4 a) (v:V) (hn:a.n<=10000000) (hl:es.length=a.n): -100000000000000<=(if v.tag=0 then rowsG a*colsG a-((es.countP fun e=>e.v.tag != 0:Nat):Int) else ((es.countP fun e=>eqB e.v v:Nat):Int))/\(if v.tag=0 then rowsG a*colsG a-((es.countP fun e=>e.v.tag != 0:Nat):Int) else ((es.countP fun e=>eqB e.v v:Nat):Int))<=100000000000000:=by
 have h1:=area_in hs;have h2:(es.countP fun e=>e.v.tag != 0)<=es.length:=QJ;have h3:(es.countP fun e=>eqB e.v v)<=es.length:=QJ;split<;>omega
theorem agg10_do {w:World} {s ck:ByteArray} {x y:Int} (ht:zAV s=some (ck,x,y)) (pl:List (Arg×List En)) (A:Option Addr) (n c text:Nat) (htx:text<=1024) (hpre:Pre10 w s A n c (pl.map fun q=>q.1.many)) (hP:ArgsAt w pl A n) (hlen:pl.length=n) (hx:x<=n) (hy:n<=y) (hcap:n<=c) (hkk:zAo ck (pl.map fun q=>q.1.many) n=true)
  (hT7:(zA2 pl).length<=20000000) (hsz:∀ q∈pl,q.1.val.str.size<=1048576/\∀ e∈q.2,e.v.str.size<=1048576) (hn9:∀ q∈pl,q.1.n<=10000000) :
  Rt 19 #[.string s,.slice A n c,.int .i64 (text:Int)] w (vG (aggDo s text pl)):=by
 have hd:=fun (W:World) (hb:Below w.heap.size w W)=>r10_items pl A n c W (hP.below hb).hr (hP.below hb).hE hP.hT hP.hm hP.hnn;have hg:=items_63 hP;have hi:∀ v∈zA2 pl,Is64 v.num:=fun v hv=>in64 (hg v hv);have ha:=fun (s:ByteArray) (A1:Option Addr) (c1:Nat) (W:World) (h:Reads W W.heap.size 5 A1 (zA2 pl).length (flat (zA2 pl))) (f:V) (hf:(zA2 pl).find? isF=some f)=>fold_fault s (zA2 pl) A1 (zA2 pl).length c1 W h hT7 f hf;unfold zAV at ht;unfold aggDo;by_cases eCOLS:(⟨#[67,79,76,83]⟩:ByteArray)=s
 ·rw[if_pos eCOLS] at ht ⊢;cases ht;subst eCOLS;obtain rfl:n=1:=by omega
  obtain⟨⟨a0,es0⟩,rfl⟩:=len1 hlen;obtain⟨b,off,rfl,hc⟩:=zAj hP (by decide);have n0:a0.n<=10000000:=hn9 (a0,es0) (by simp);have i0:=hP.h64 (a0,es0) (by simp);have o0:=hP.hok (a0,es0) (by simp);have E0:=hP.hE (a0,es0) (by simp);have m0:a0.many=true:=zAk (i:=0) hkk (by decide) (by decide +kernel);obtain⟨s0,e0,r0,q0⟩:=zAc o0 m0;have g0:=(zBT o0 m0).2;have f0:∀ e∈es0,mayG e.v=true:=fun e he=>(zB7 g0 e he).1;show Calls prog 19 _ w fun e w'=>e=.returned (vG (numG (colsG a0*10000)))/\Below w.heap.size w w';exact c10_COLS a0 b off c text _ _ w htx hpre (hc 0 (a0,es0) rfl) (by have:zA4 a0:=s0;unfold zA4 at this;unfold colsG;omega) (fun W hb=>cols_any a0 s0 W)
 rw[if_neg eCOLS] at ht ⊢;by_cases eROWS:(⟨#[82,79,87,83]⟩:ByteArray)=s
 ·rw[if_pos eROWS] at ht ⊢;cases ht;subst eROWS;obtain rfl:n=1:=by omega
  obtain⟨⟨a0,es0⟩,rfl⟩:=len1 hlen;obtain⟨b,off,rfl,hc⟩:=zAj hP (by decide);have n0:a0.n<=10000000:=hn9 (a0,es0) (by simp);have i0:=hP.h64 (a0,es0) (by simp);have o0:=hP.hok (a0,es0) (by simp);have E0:=hP.hE (a0,es0) (by simp);have m0:a0.many=true:=zAk (i:=0) hkk (by decide) (by decide +kernel);obtain⟨s0,e0,r0,q0⟩:=zAc o0 m0;have g0:=(zBT o0 m0).2;have f0:∀ e∈es0,mayG e.v=true:=fun e he=>(zB7 g0 e he).1;show Calls prog 19 _ w fun e w'=>e=.returned (vG (numG (rowsG a0*10000)))/\Below w.heap.size w w';exact c10_ROWS a0 b off c text _ _ w htx hpre (hc 0 (a0,es0) rfl) (by have:zA4 a0:=s0;unfold zA4 at this;unfold rowsG;omega) (fun W hb=>rows_any a0 s0 W)
 rw[if_neg eROWS] at ht ⊢;by_cases eJOIN:(⟨#[74,79,73,78]⟩:ByteArray)=s
 ·rw[if_pos eJOIN] at ht ⊢;cases ht;subst eJOIN;obtain⟨m,rfl⟩:∃ m,n=m+1:=⟨n-1,by omega⟩
  obtain⟨⟨a0,es0⟩,pl,rfl⟩:=lenS hlen
  ·skip
   obtain⟨b,off,rfl,hc⟩:=zAj hP (by omega);have i0:=hP.h64 (a0,es0) (by simp);have z0:=(hsz (a0,es0) (by simp)).1;have hle:(zA2 pl).length<=(zA2 ((a0,es0)::pl)).length:=by unfold zA2;rw[QK,QC];omega
   show Calls prog 19 _ w fun e w'=>e=.returned (vG (joinG text (a0,es0) pl))/\Below w.heap.size w w';rw[join_is];have hh:=args_tail hP (by omega);refine c10_JOIN a0 (zA2 pl) _ b off m c text _ _ w htx rfl (by omega) (by omega) (by have:=hP.hm;omega) hcap i0.1 hpre (hc 0 (a0,es0) rfl) (fun W hb c'=>r10_items pl _ m c' W (hh.below hb).hr (hh.below hb).hE hh.hT hh.hm hh.hnn) (fun A1 c1 W h=>r10_join _ (asTxt_size a0.val i0.1 z0) (zA2 pl) A1 _ c1 W.heap.size text W h (by omega) htx (fun v hv=>⟨in64 (items_63 hh v hv),?_⟩));obtain⟨q,hq,hv⟩:=List.mem_flatMap.1 hv;have h1:=hsz q (QB _ hq);unfold zBC at hv;rcases List.mem_append.1 hv with hv|hv
   ·split at hv
    ·simp at hv
    ·simp only[List.mem_cons,QL,or_false] at hv;subst hv;exact h1.1
   ·obtain⟨e,he,rfl⟩:=Q8.1 hv;exact h1.2 e he
 rw[if_neg eJOIN] at ht ⊢;by_cases eLARGE:(⟨#[76,65,82,71,69]⟩:ByteArray)=s
 ·rw[if_pos eLARGE] at ht ⊢;cases ht;subst eLARGE;obtain rfl:n=2:=by omega
  obtain⟨⟨a0,es0⟩,⟨a1,es1⟩,rfl⟩:=len2 hlen;obtain⟨b,off,rfl,hc⟩:=zAj hP (by decide);have n0:a0.n<=10000000:=hn9 (a0,es0) (by simp);have i0:=hP.h64 (a0,es0) (by simp);have o0:=hP.hok (a0,es0) (by simp);have E0:=hP.hE (a0,es0) (by simp);have m0:a0.many=true:=zAk (i:=0) hkk (by decide) (by decide +kernel);obtain⟨s0,e0,r0,q0⟩:=zAc o0 m0;have g0:=(zBT o0 m0).2;have f0:∀ e∈es0,mayG e.v=true:=fun e he=>(zB7 g0 e he).1;have n1:a1.n<=10000000:=hn9 (a1,es1) (by simp);have i1:=hP.h64 (a1,es1) (by simp);have o1:=hP.hok (a1,es1) (by simp);have E1:=hP.hE (a1,es1) (by simp);exact c10_LARGE a0 a1 b off c text _ _ w htx hpre (hc 0 (a0,es0) rfl) (hc 1 (a1,es1) rfl) (fun W hb=>r10_large a0 es0 a1.val W (E0.below hb) n0 (items_63 (args_head hP (by have:=items_part (p:=(a0,es0)) (pl:=[(a0,es0),(a1,es1)]) (by simp);omega))) i1.1)
 rw[if_neg eLARGE] at ht ⊢;by_cases eINDEX:(⟨#[73,78,68,69,88]⟩:ByteArray)=s
 ·rw[if_pos eINDEX] at ht ⊢;cases ht;subst eINDEX;obtain rfl:n=3:=by omega
  obtain⟨⟨a0,es0⟩,⟨a1,es1⟩,⟨a2,es2⟩,rfl⟩:=len3 hlen;obtain⟨b,off,rfl,hc⟩:=zAj hP (by decide);have n0:a0.n<=10000000:=hn9 (a0,es0) (by simp);have i0:=hP.h64 (a0,es0) (by simp);have o0:=hP.hok (a0,es0) (by simp);have E0:=hP.hE (a0,es0) (by simp);have m0:a0.many=true:=zAk (i:=0) hkk (by decide) (by decide +kernel);obtain⟨s0,e0,r0,q0⟩:=zAc o0 m0;have g0:=(zBT o0 m0).2;have f0:∀ e∈es0,mayG e.v=true:=fun e he=>(zB7 g0 e he).1;have n1:a1.n<=10000000:=hn9 (a1,es1) (by simp);have i1:=hP.h64 (a1,es1) (by simp);have o1:=hP.hok (a1,es1) (by simp);have E1:=hP.hE (a1,es1) (by simp);have n2:a2.n<=10000000:=hn9 (a2,es2) (by simp);have i2:=hP.h64 (a2,es2) (by simp);have o2:=hP.hok (a2,es2) (by simp);have E2:=hP.hE (a2,es2) (by simp);exact c10_INDEX a0 a1 a2 b off c text _ _ w htx hpre (hc 0 (a0,es0) rfl) (hc 1 (a1,es1) rfl) (hc 2 (a2,es2) rfl) (fun W hb=>r10_index a0 es0 a1.val a2.val W (E0.below hb) s0 (by omega) g0 i1.1 i2.1)
 rw[if_neg eINDEX] at ht ⊢;by_cases eLOOKUP:(⟨#[76,79,79,75,85,80]⟩:ByteArray)=s
 ·rw[if_pos eLOOKUP] at ht ⊢;cases ht;subst eLOOKUP;obtain rfl:n=3:=by omega
  obtain⟨⟨a0,es0⟩,⟨a1,es1⟩,⟨a2,es2⟩,rfl⟩:=len3 hlen;obtain⟨b,off,rfl,hc⟩:=zAj hP (by decide);have n0:a0.n<=10000000:=hn9 (a0,es0) (by simp);have i0:=hP.h64 (a0,es0) (by simp);have o0:=hP.hok (a0,es0) (by simp);have E0:=hP.hE (a0,es0) (by simp);have n1:a1.n<=10000000:=hn9 (a1,es1) (by simp);have i1:=hP.h64 (a1,es1) (by simp);have o1:=hP.hok (a1,es1) (by simp);have E1:=hP.hE (a1,es1) (by simp);have m1:a1.many=true:=zAk (i:=1) hkk (by decide) (by decide +kernel);obtain⟨s1,e1,r1,q1⟩:=zAc o1 m1;have g1:=(zBT o1 m1).2;have f1:∀ e∈es1,mayG e.v=true:=fun e he=>(zB7 g1 e he).1;have n2:a2.n<=10000000:=hn9 (a2,es2) (by simp);have i2:=hP.h64 (a2,es2) (by simp);have o2:=hP.hok (a2,es2) (by simp);have E2:=hP.hE (a2,es2) (by simp);have m2:a2.many=true:=zAk (i:=2) hkk (by decide) (by decide +kernel);obtain⟨s2,e2,r2,q2⟩:=zAc o2 m2;have g2:=(zBT o2 m2).2;have f2:∀ e∈es2,mayG e.v=true:=fun e he=>(zB7 g2 e he).1;exact c10_LOOKUP _ c text _ _ w htx hpre (fun W hb=>r10_lookup a0 a1 a2 es1 es2 b off c W (fun i u hu=>cell_below ((hc 0 (a0,es0) rfl) i u hu) hb) (fun i u hu=>cell_below ((hc 1 (a1,es1) rfl) i u hu) hb) (E1.below hb) s1 (by omega) g1 (fun i u hu=>cell_below ((hc 2 (a2,es2) rfl) i u hu) hb) (E2.below hb) s2 (by omega) g2 r1 q1)
 rw[if_neg eLOOKUP] at ht ⊢;by_cases eMATCH:(⟨#[77,65,84,67,72]⟩:ByteArray)=s
 ·rw[if_pos eMATCH] at ht ⊢;cases ht;subst eMATCH;obtain rfl:n=2:=by omega
  obtain⟨⟨a0,es0⟩,⟨a1,es1⟩,rfl⟩:=len2 hlen;obtain⟨b,off,rfl,hc⟩:=zAj hP (by decide);have n0:a0.n<=10000000:=hn9 (a0,es0) (by simp);have i0:=hP.h64 (a0,es0) (by simp);have o0:=hP.hok (a0,es0) (by simp);have E0:=hP.hE (a0,es0) (by simp);have n1:a1.n<=10000000:=hn9 (a1,es1) (by simp);have i1:=hP.h64 (a1,es1) (by simp);have o1:=hP.hok (a1,es1) (by simp);have E1:=hP.hE (a1,es1) (by simp);have m1:a1.many=true:=zAk (i:=1) hkk (by decide) (by decide +kernel);obtain⟨s1,e1,r1,q1⟩:=zAc o1 m1;have g1:=(zBT o1 m1).2;have f1:∀ e∈es1,mayG e.v=true:=fun e he=>(zB7 g1 e he).1;exact c10_MATCH _ c text _ _ w htx hpre (fun W hb=>r10_match a0 a1 es1 b off c W (fun i u hu=>cell_below ((hc 0 (a0,es0) rfl) i u hu) hb) (fun i u hu=>cell_below ((hc 1 (a1,es1) rfl) i u hu) hb) (E1.below hb) s1 (by omega) g1 r1 q1)
 rw[if_neg eMATCH] at ht ⊢;by_cases eSUMIF:(⟨#[83,85,77,73,70]⟩:ByteArray)=s
 ·rw[if_pos eSUMIF] at ht ⊢;cases ht;subst eSUMIF;obtain rfl:n=3:=by omega
  obtain⟨⟨a0,es0⟩,⟨a1,es1⟩,⟨a2,es2⟩,rfl⟩:=len3 hlen;obtain⟨b,off,rfl,hc⟩:=zAj hP (by decide);have n0:a0.n<=10000000:=hn9 (a0,es0) (by simp);have i0:=hP.h64 (a0,es0) (by simp);have o0:=hP.hok (a0,es0) (by simp);have E0:=hP.hE (a0,es0) (by simp);have m0:a0.many=true:=zAk (i:=0) hkk (by decide) (by decide +kernel);obtain⟨s0,e0,r0,q0⟩:=zAc o0 m0;have g0:=(zBT o0 m0).2;have f0:∀ e∈es0,mayG e.v=true:=fun e he=>(zB7 g0 e he).1;have n1:a1.n<=10000000:=hn9 (a1,es1) (by simp);have i1:=hP.h64 (a1,es1) (by simp);have o1:=hP.hok (a1,es1) (by simp);have E1:=hP.hE (a1,es1) (by simp);have n2:a2.n<=10000000:=hn9 (a2,es2) (by simp);have i2:=hP.h64 (a2,es2) (by simp);have o2:=hP.hok (a2,es2) (by simp);have E2:=hP.hE (a2,es2) (by simp);have m2:a2.many=true:=zAk (i:=2) hkk (by decide) (by decide +kernel);obtain⟨s2,e2,r2,q2⟩:=zAc o2 m2;have g2:=(zBT o2 m2).2;have f2:∀ e∈es2,mayG e.v=true:=fun e he=>(zB7 g2 e he).1;exact c10_SUMIF a0 a1 a2 b off c text _ _ w htx hpre (hc 0 (a0,es0) rfl) (hc 1 (a1,es1) rfl) (hc 2 (a2,es2) rfl) (fun W hb=>r10_sumif a0 a2 es0 es2 a1.val W (E0.below hb) (E2.below hb) s0 s2 e2 (by omega) n2 g0 i2.2)
 rw[if_neg eSUMIF] at ht ⊢;by_cases eCOUNTIF:(⟨#[67,79,85,78,84,73,70]⟩:ByteArray)=s
 ·rw[if_pos eCOUNTIF] at ht ⊢;cases ht;subst eCOUNTIF;obtain rfl:n=2:=by omega
  obtain⟨⟨a0,es0⟩,⟨a1,es1⟩,rfl⟩:=len2 hlen;obtain⟨b,off,rfl,hc⟩:=zAj hP (by decide);have n0:a0.n<=10000000:=hn9 (a0,es0) (by simp);have i0:=hP.h64 (a0,es0) (by simp);have o0:=hP.hok (a0,es0) (by simp);have E0:=hP.hE (a0,es0) (by simp);have m0:a0.many=true:=zAk (i:=0) hkk (by decide) (by decide +kernel);obtain⟨s0,e0,r0,q0⟩:=zAc o0 m0;have g0:=(zBT o0 m0).2;have f0:∀ e∈es0,mayG e.v=true:=fun e he=>(zB7 g0 e he).1;have n1:a1.n<=10000000:=hn9 (a1,es1) (by simp);have i1:=hP.h64 (a1,es1) (by simp);have o1:=hP.hok (a1,es1) (by simp);have E1:=hP.hE (a1,es1) (by simp);show Calls prog 19 _ w fun e w'=>e=.returned (vG (countifG a0 es0 a1.val))/\Below w.heap.size w w';have v1:=args_single o1 (kind_val10 (i:=1) hkk (by decide) (by decide +kernel));rw[countif_eq f0 v1 E0.1];exact c10_COUNTIF a0 a1 b off c text _ _ w htx hpre (hc 0 (a0,es0) rfl) (hc 1 (a1,es1) rfl) (count_in s0 a1.val n0 E0.1) (fun W hb=>r10_counted a0 es0 a1.val W (E0.below hb) s0 (by omega))
 rw[if_neg eCOUNTIF] at ht ⊢;by_cases eBLANKS:(⟨#[66,76,65,78,75,83]⟩:ByteArray)=s
 ·rw[if_pos eBLANKS] at ht ⊢;cases ht;subst eBLANKS;obtain rfl:n=1:=by omega
  obtain⟨⟨a0,es0⟩,rfl⟩:=len1 hlen;obtain⟨b,off,rfl,hc⟩:=zAj hP (by decide);have n0:a0.n<=10000000:=hn9 (a0,es0) (by simp);have i0:=hP.h64 (a0,es0) (by simp);have o0:=hP.hok (a0,es0) (by simp);have E0:=hP.hE (a0,es0) (by simp);have m0:a0.many=true:=zAk (i:=0) hkk (by decide) (by decide +kernel);obtain⟨s0,e0,r0,q0⟩:=zAc o0 m0;have g0:=(zBT o0 m0).2;have f0:∀ e∈es0,mayG e.v=true:=fun e he=>(zB7 g0 e he).1;show Calls prog 19 _ w fun e w'=>e=.returned (vG (countifG a0 es0 zeroG))/\Below w.heap.size w w';rw[countif_eq f0 (by decide +kernel) E0.1];exact c10_BLANKS a0 b off c text _ _ w htx hpre (hc 0 (a0,es0) rfl) (count_in s0 zeroG n0 E0.1) (fun W hb=>r10_counted a0 es0 zeroG W (E0.below hb) s0 (by omega))
 rw[if_neg eBLANKS] at ht ⊢;by_cases eCOUNTA:(⟨#[67,79,85,78,84,65]⟩:ByteArray)=s
 ·rw[if_pos eCOUNTA] at ht ⊢;cases ht;subst eCOUNTA;exact c10_counts _ (by simp) _ _ A n c text _ _ w htx rfl hpre hd (fun A1 c1 W h=>r10_COUNTA _ A1 _ c1 W.heap.size W h hT7)
 rw[if_neg eCOUNTA] at ht ⊢;by_cases eCOUNT:(⟨#[67,79,85,78,84]⟩:ByteArray)=s
 ·rw[if_pos eCOUNT] at ht ⊢;cases ht;subst eCOUNT;exact c10_counts _ (by simp) _ _ A n c text _ _ w htx rfl hpre hd (fun A1 c1 W h=>r10_COUNT _ A1 _ c1 W.heap.size W h hT7)
 rw[if_neg eCOUNT] at ht ⊢;by_cases eMEDIAN:(⟨#[77,69,68,73,65,78]⟩:ByteArray)=s
 ·rw[if_pos eMEDIAN] at ht ⊢;cases ht;subst eMEDIAN;have e:=among_or (zA2 pl) (fun l=>if l.length=0 then errG 6 else numG (medianG l));refine c10_folded _ (by simp) _ _ A n c text _ _ w htx rfl hpre hd (fun A1 c1 W h=> ?_);rw[e];cases hf:(zA2 pl).find? isF with
  | some v=>exact ha _ A1 c1 W h v hf
  | none=>exact fold_MEDIAN _ A1 _ c1 W h hT7 hg hf
 rw[if_neg eMEDIAN] at ht ⊢;by_cases eAVG:(⟨#[65,86,71]⟩:ByteArray)=s
 ·rw[if_pos eAVG] at ht ⊢;cases ht;subst eAVG;have e:=among_or (zA2 pl) (fun l=>if l.length=0 then errG 6 else numG (meanG l));refine c10_folded _ (by simp) _ _ A n c text _ _ w htx rfl hpre hd (fun A1 c1 W h=> ?_);rw[e];cases hf:(zA2 pl).find? isF with
  | some v=>exact ha _ A1 c1 W h v hf
  | none=>exact fold_AVG _ A1 _ c1 W h hT7 hg hf
 rw[if_neg eAVG] at ht ⊢;by_cases eMAX:(⟨#[77,65,88]⟩:ByteArray)=s
 ·rw[if_pos eMAX] at ht ⊢;cases ht;subst eMAX;have e:=among_or (zA2 pl) (fun l=>if l.length=0 then errG 6 else numG (Lib.maxOf l));refine c10_folded _ (by simp) _ _ A n c text _ _ w htx rfl hpre hd (fun A1 c1 W h=> ?_);rw[e];cases hf:(zA2 pl).find? isF with
  | some v=>exact ha _ A1 c1 W h v hf
  | none=>exact fold_MAX _ A1 _ c1 W h hT7 hg hf
 rw[if_neg eMAX] at ht ⊢;by_cases eMIN:(⟨#[77,73,78]⟩:ByteArray)=s
 ·rw[if_pos eMIN] at ht ⊢;cases ht;subst eMIN;have e:=among_or (zA2 pl) (fun l=>if l.length=0 then errG 6 else numG (Lib.minOf l));refine c10_folded _ (by simp) _ _ A n c text _ _ w htx rfl hpre hd (fun A1 c1 W h=> ?_);rw[e];cases hf:(zA2 pl).find? isF with
  | some v=>exact ha _ A1 c1 W h v hf
  | none=>exact fold_MIN _ A1 _ c1 W h hT7 hg hf
 rw[if_neg eMIN] at ht ⊢;by_cases ePROD:(⟨#[80,82,79,68]⟩:ByteArray)=s
 ·rw[if_pos ePROD] at ht ⊢;cases ht;subst ePROD;have e:=among_or (zA2 pl) (fun l=>prodGo 10000 l);refine c10_folded _ (by simp) _ _ A n c text _ _ w htx rfl hpre hd (fun A1 c1 W h=> ?_);rw[e];cases hf:(zA2 pl).find? isF with
  | some v=>exact ha _ A1 c1 W h v hf
  | none=>exact fold_PROD _ A1 _ c1 W h hT7 hg hf
 rw[if_neg ePROD] at ht ⊢;by_cases eSUM:(⟨#[83,85,77]⟩:ByteArray)=s
 ·rw[if_pos eSUM] at ht ⊢;cases ht;subst eSUM;have e:=among_or (zA2 pl) (fun l=>fitG l.sum);refine c10_folded _ (by simp) _ _ A n c text _ _ w htx rfl hpre hd (fun A1 c1 W h=> ?_);rw[e];cases hf:(zA2 pl).find? isF with
  | some v=>exact ha _ A1 c1 W h v hf
  | none=>exact fold_SUM _ A1 _ c1 W h hT7 hg hf
 rw[if_neg eSUM] at ht ⊢;cases ht
theorem r10_Call (s:ByteArray) (pl:List (Arg×List En)) (A:Option Addr) (n c:Nat) (tx:Int) (w:World) (hr:Reads w w.heap.size 11 A n (zAY (pl.map Prod.fst))) (hm:n<=1000000000000) (hcap:n<=c) (ok:Nat->Bool)
  (hok:∀ j a,(pl.map Prod.fst)[j]? =some a->∀ W,Below w.heap.size w W->Rt 67 #[a.agg] W (.bool (ok j)))
  (hokA:∀ j p,pl[j]? =some p->ok j=argOk p.1 p.2) (hE:∀ p∈pl,zAW w p.1 p.2) (h64:∀ p∈pl,Is64 p.1.val.num/\∀ e∈p.2,Is64 e.v.num) (hT:n<=16->(zA2 pl).length<=20000000) (hsz:∀ q∈pl,q.1.val.str.size<=1048576/\∀ e∈q.2,e.v.str.size<=1048576) (hn9:∀ q∈pl,q.1.n<=10000000) :
  Rt 19 #[.string s,.slice A n c,.int .i64 tx] w (vG (zBj s (pl.map Prod.fst) pl ok tx)):=by
 have ho:pl.length=n:=by
  have:=hr.1;rw[zAN,Q3] at this;omega
 have hk:(pl.map Prod.fst).length=n:=by rw[Q3,ho]
 have hc:=fun (W:World) (hB:Below w.heap.size w W)=>ref08_ArgsX (pl.map Prod.fst) A n c W.heap.size W ((hr.below hB).lift hB.size) hm ok (fun j a ha W2 h2=>hok j a ha W2 (hB.trans (h2.mono hB.size)));have hf:=fun (W:World) (hB:Below w.heap.size w W)=>r8_Faulty (pl.map Prod.fst) A n c W.heap.size W ((hr.below hB).lift hB.size) hm;have hD:((pl.map Prod.fst).map Arg.many).length=n:=by rw[Q3,hk]
 have he:=fun A1 c1 W B h=>ref10_Takes s A1 n c1 ((pl.map Prod.fst).map Arg.many) W B h (by omega);obtain⟨R,hR⟩:=lt_ (zBj s (pl.map Prod.fst) pl ok tx);rw[hR];unfold zBj at hR;rw[hk] at hR hc;by_cases ht1:tx<0
 rw[if_pos (.inl ht1)] at hR;subst hR;have hd:=zh hc;clear hc hf he hr hok hokA hE h64 hT hsz hn9
 rotate_left
 have hA:decide (tx<0)=false:=decide_eq_false ht1;by_cases ht2:1024<tx
 rw[if_pos (.inr ht2)] at hR;subst hR;have hd:=zh hc;clear hc hf he hr hok hokA hE h64 hT hsz hn9
 rotate_left
 have hC:decide (1024<tx)=false:=decide_eq_false ht2;rw[if_neg (by omega)] at hR;obtain⟨K,hK⟩:=lt_ ((Q4 n).all ok);obtain⟨T,ht⟩:=lt_ (zAy s ((pl.map Prod.fst).map Arg.many));rw[hK] at hR hc;rw[ht] at hR he;cases K;rw[if_neg (by decide)] at hR;subst hR;have hd:=zh hc;clear hc hf he hr hok hokA hE h64 hT hsz hn9
 rotate_left
 rw[if_pos rfl] at hR;cases T;rw[if_neg (by decide)] at hR;subst hR;have hd:=zh hc;have hs:=zh he;clear hc hf he hr hok hokA hE h64 hT hsz hn9
 rotate_left
 rw[if_pos rfl] at hR;have hg:∀ p∈pl,argOk p.1 p.2=true:=fun p hp=>by
  obtain⟨j,hj⟩:=QA hp;rw[<- hokA j p hj];exact QF.1 hK j (List.mem_range.2 (by rw[<- ho];exact(Q7.1 hj).1))
 obtain⟨ck,x,y,hx,hq,hz,hh,hn⟩:=takesA_len ht;rw[hD] at hq hz hh hn;have hu:=faulty_vals10 hg;unfold aggsVals at hR;rw[<- hu] at hR;obtain⟨F,hF⟩:=lt_ (faultyA (pl.map Prod.fst));rw[hF] at hR hf;rcases F with _|f
 ·have hl:R=aggDo s tx pl:=hR.symm;subst hl;obtain⟨text,rfl⟩:∃ text:Nat,tx=(text:Int):=⟨tx.toNat,by omega⟩
  have hy:(pl.map Prod.fst).map Arg.many=pl.map fun q=>q.1.many:=by rw[List.map_map];rfl
  simp only[hy] at hc he hn;refine agg10_do hx pl A n c text (by omega) ⟨fun W hb=> ?_,fun A1 c1 W B h=> ?_,fun W hb=> ?_⟩ ⟨hr,hE,by have:=hT hh;omega,hm,fun p hp=>by have:=hn9 p hp;omega,h64,hg⟩ ho hq.1 hq.2 hcap ?_ (hT hh) hsz hn9
  ·exact hc W hb
  ·exact he A1 c1 W B h
  ·exact hf W hb
  ·exact hn
 have hl:R=f:=hR.symm;subst hl;have hd:=zh hc;have hs:=zh he;have hv:=zh hf;clear hc hf he hr hok hokA hE h64 hT hsz hn9 hR hu hg;all_goals
  go_enter func19,ntmps19;go_wp2_with(first|(go_at_call 20;refine(hd.out _ bel).mono ?_;rintro e w1 ⟨v1,rfl,hi,hb⟩;obtain⟨A1,c1,rfl,-,-⟩:=zA8 hi;have hw:=zh (Reads.zAC hi);obtain⟨l1,q1,rfl⟩:=zA0 hb;clear hi hb)|(go_at_call 22;refine mB (zA6 _ _) ?_;intro l5 q5)|(go_at_call 53;refine(hs.out _ _ _ _ hw.out).mono ?_;rintro e w2 ⟨rfl,h⟩;obtain rfl:=h.symm;clear h)|(go_at_call 36;refine mB (hv.out _ bel) ?_;intro l3 q3))
  all_goals(go_returns;exact rb_)
theorem funcs_may (a:Arg) (es:List En) (w:World) (hE:zAW w a es) (hn:a.n<=1000000000000):Rt 12 #[a.agg] w (.bool (argOk a es)):=may_any _ (by simp) a es w hE hn
structure LawIn (w:World) (pl:List (Arg×List En)) (A:Option Addr) (n c:Nat):Prop where
 hr:Reads w w.heap.size 11 A n (zAY (pl.map Prod.fst))
 hE:∀ p∈pl,zAW w p.1 p.2
 hm:n<=1048576
 hcap:n<=c
 h64:∀ p∈pl,Is64 p.1.val.num/\∀ e∈p.2,Is64 e.v.num
 hsz:∀ q∈pl,q.1.val.str.size<=1048576/\∀ e∈q.2,e.v.str.size<=1048576
 hn9:∀ q∈pl,q.1.n<=1048576
 hp:Pow10 w
 hM:MaxL w
theorem LawIn.below {w W:World} {pl:List (Arg×List En)} {A:Option Addr} {n c:Nat} (h:LawIn w pl A n c) (hb:Below w.heap.size w W):LawIn W pl A n c :=
 ⟨(h.hr.below hb).lift hb.size,fun p hp=>(h.hE p hp).below hb,h.hm,h.hcap,h.h64,h.hsz,h.hn9,h.hp.below hb (Nat.le_refl _),h.hM.below hb⟩
theorem all_lay:namesL.all (fun n=>(layOf n).isSome)=true:=by decide +kernel
theorem first_layL {s:ByteArray} (h:inFirst 50 s=true):(layOf s).isSome=true:=by
 unfold inFirst at h;obtain⟨n,hn,e⟩:=List.any_eq_true.1 h;simp only[decide_eq_true_eq] at e;subst e;exact QF.1 all_lay s (List.mem_of_mem_take hn)
theorem ite_isL {α:Type} {p:Prop} [Decidable p] {a:α} {b:Option α} {t:Bool} (h:t=b.isSome):(if p then true else t)=(if p then some a else b).isSome:=by
 by_cases hp:p
 ·rw[if_pos hp,if_pos hp];rfl
 ·rw[if_neg hp,if_neg hp];exact h
theorem isOwn_eqL (s:ByteArray):isOwn s=(zAg s).isSome:=by
 unfold isOwn zAg
 iterate 16 refine ite_isL ?_
 rfl
theorem isOwn_some {s:ByteArray} (h:isOwn s=true):(zAg s).isSome=true:=by rw[<- isOwn_eqL];exact h
def okJ (pl:List (Arg×List En)) (j:Nat):Bool:=argOk (pl.getD j p0A).1 (pl.getD j p0A).2
theorem okJ_at {pl:List (Arg×List En)} {j:Nat} {p:Arg×List En} (h:pl[j]? =some p):okJ pl j=argOk p.1 p.2:=by
 unfold okJ;rw[List.getD_eq_getElem?_getD,h]
 rfl
theorem map_at {pl:List (Arg×List En)} {j:Nat} {a:Arg} (h:(pl.map Prod.fst)[j]? =some a):∃ p,pl[j]? =some p/\p.1=a:=by
 rw[Q9] at h;cases e:pl[j]? with
 | none=>rw[e] at h;cases h
 | some p=>rw[e] at h;exact⟨p,rfl,Option.some.inj h⟩
theorem items_bound:∀ pl:List (Arg×List En),(∀ p∈pl,p.2.length<=1048576)->(zA2 pl).length<=pl.length*1048577
 | [],_=>by simp[zA2]
 | p::pl,h=>by
   have h1:=items_bound pl fun q hq=>h q (QB _ hq);have h2:=h p (by simp);have h3:(zBC p).length<=1048577:=by
    unfold zBC;rw[QC,Q3];split<;>simp<;>omega
   unfold zA2 at h1 ⊢;rw[QK,QC,List.length_cons];omega
section
variable {w:World} {pl:List (Arg×List En)} {A:Option Addr} {n c:Nat}
theorem LawIn.len (h:LawIn w pl A n c):pl.length=n:=by
 have:=h.hr.1;rw[zAN,Q3] at this;omega
theorem LawIn.aF (h:LawIn w pl A n c):∀ a∈pl.map Prod.fst,Is64 a.val.num:=fun a ha=>by
 obtain⟨p,hp,rfl⟩:=Q8.1 ha;exact(h.h64 p hp).1
theorem LawIn.may (h:LawIn w pl A n c) (F:Nat) (hF:∀ (a:Arg) (es:List En) (W:World),zAW W a es->a.n<=1000000000000->Calls prog F #[a.agg] W fun e w'=>e=.returned (.bool (argOk a es))/\Below W.heap.size W w') :
  ∀ j a,(pl.map Prod.fst)[j]? =some a->∀ W,Below w.heap.size w W->Calls prog F #[a.agg] W fun e w'=>e=.returned (.bool (okJ pl j))/\Below W.heap.size W w':=fun j a ha W hb=>by
 obtain⟨p,hj,rfl⟩:=map_at ha;have hm:=List.mem_of_getElem? hj;rw[okJ_at hj];exact hF p.1 p.2 W ((h.hE p hm).below hb) (by have:=h.hn9 p hm;omega)
theorem LawIn.nums (h:LawIn w pl A n c) (s:ByteArray) (tx:Int):Rt 76 #[.string s,.slice A n c,.int .i64 tx] w (vG (zBI s (pl.map Prod.fst) (okJ pl))) :=
 nums_Call s _ A n c _ tx w h.hr (by have:=h.hm;omega) h.aF (okJ pl) (h.may _ nums_may)
theorem LawIn.texts (h:LawIn w pl A n c) (s:ByteArray) (tx:Int):Rt 79 #[.string s,.slice A n c,.int .i64 tx] w (vG (zBY s (pl.map Prod.fst) (okJ pl) tx)) :=
 texts_Call s _ A n c _ tx w h.hr (by have:=h.hm;omega) h.aF (fun a ha=>by
  obtain⟨p,hp,rfl⟩:=Q8.1 ha;exact(h.hsz p hp).1) h.hp h.hM (okJ pl) (h.may _ texts_may)
theorem LawIn.aggs (h:LawIn w pl A n c) (s:ByteArray) (tx:Int):Rt 82 #[.string s,.slice A n c,.int .i64 tx] w (vG (zBj s (pl.map Prod.fst) pl (okJ pl) tx)) :=
 aggs_Call s _ pl rfl A n c tx w h.hr (by have:=h.hm;omega) h.hcap h.aF (okJ pl) (h.may _ aggs_may) (fun j p hj=>okJ_at hj) h.hE (fun p hp=>(h.h64 p hp).2)
  (fun h16=>by
   have h1:=items_bound pl fun p hp=>by have:=(h.hE p hp).1;have:=h.hn9 p hp;omega
   have:=h.len;omega) h.hsz (fun q hq=>by have:=h.hn9 q hq;omega) h.hp
def tabX (s:ByteArray) (pl:List (Arg×List En)) (tx:Int):V:=match zAg s with
 | some _=>callX (okJ pl) s (pl.map Prod.fst) (ownDo s ((pl.map Prod.fst).map Arg.val))
 | none=>match layOf s with
   | some 0=>zBI s (pl.map Prod.fst) (okJ pl)
   | some 1=>zBY s (pl.map Prod.fst) (okJ pl) tx
   | some _=>zBj s (pl.map Prod.fst) pl (okJ pl) tx
   | none=>errG 8
theorem own_none {s:ByteArray} {i:Nat} (h:layOf s=some i):zAg s=none:=by
 cases ho:zAg s with
 | none=>rfl
 | some q=>rw[own_lay s ho] at h;cases h
theorem lay_takes {s:ByteArray} {i:Nat} (h:layOf s=some i) (xs:List Bool):zBK s xs=layTakes i s xs:=by
 unfold zBK;rw[own_none h,h]
theorem callX_nums {s:ByteArray} (h:layOf s=some 0) (al:List Arg) (ok:Nat->Bool):callX ok s al (zBI s al ok)=zBI s al ok:=by
 unfold callX;rw[lay_takes h];show (if (Q4 al.length).all ok&&zBB s (al.map Arg.many) then _ else _)=_;unfold zBI;cases (Q4 al.length).all ok<;>cases zBB s (al.map Arg.many)<;>rfl
theorem callX_texts {s:ByteArray} (h:layOf s=some 1) (al:List Arg) (ok:Nat->Bool) (tx:Int):callX ok s al (zBY s al ok tx)=zBY s al ok tx:=by
 unfold callX;rw[lay_takes h];show (if (Q4 al.length).all ok&&zAx s (al.map Arg.many) then _ else _)=_;unfold zBY;cases (Q4 al.length).all ok<;>cases zAx s (al.map Arg.many)<;>simp
theorem callX_aggs {s:ByteArray} (h:layOf s=some 2) (al:List Arg) (pl:List (Arg×List En)) (ok:Nat->Bool) (tx:Int):callX ok s al (zBj s al pl ok tx)=zBj s al pl ok tx:=by
 unfold callX;rw[lay_takes h];show (if (Q4 al.length).all ok&&zAy s (al.map Arg.many) then _ else _)=_;unfold zBj;cases (Q4 al.length).all ok<;>cases zAy s (al.map Arg.many)<;>simp
theorem argOk_may {a:Arg} {es:List En} (h:argOk a es=true):mayG a.val=true:=by
 unfold argOk at h;by_cases hm:a.many=true
 ·rw[if_pos hm] at h;simp only[Q5] at h;have h1:=h.1.2;unfold eqB at h1;rw[of_decide_eq_true h1]
  decide +kernel
 ·rw[if_neg hm] at h;simp only[Q5] at h;exact h.2
theorem layOf_cases {s:ByteArray} {i:Nat} (h:layOf s=some i):i=0∨i=1∨i=2:=by
 unfold layOf at h;split at h
 ·cases h;exact .inl rfl
 ·split at h
  ·cases h;exact .inr (.inl rfl)
  ·split at h
   ·cases h;exact .inr (.inr rfl)
   ·cases h
theorem LawIn.table (h:LawIn w pl A n c) (b:Nat) (hR:Ready w b) (s:ByteArray) (tx:Int):Rt 6 #[.pointer (some ⟨b,0,none⟩),.string s,.slice A n c,.int .i64 tx] w (vG (tabX s pl tx)):=by
 have hm:n<=1000000000000:=by have:=h.hm;omega
 have he:=h.may _ funcs_may;have hf:=h.len;unfold tabX;cases ho:zAg s with
 | some q =>
   obtain⟨x,y,d⟩:=q;refine table_callOwn b tx s x y d ho (okJ pl) (pl.map Prod.fst) A n c _ w hR h.hr hm he _ (fun w' pd f hb hc hD hbt hall=> ?_);refine own_do ho (pl.map Prod.fst) A n c _ tx w' pd f hc hD (h.below hb).hr hm hbt (fun v hv=> ?_) (fun v hv=> ?_)
   ·obtain⟨a,ha,rfl⟩:=Q8.1 hv;exact h.aF a ha
   ·obtain⟨a,ha,rfl⟩:=Q8.1 hv;obtain⟨p,hp,rfl⟩:=Q8.1 ha;obtain⟨j,hj⟩:=QA hp;have h1:=hall j (by have:=(Q7.1 hj).1;omega);rw[okJ_at hj] at h1;exact argOk_may h1
 | none =>
   cases hl:layOf s with
   | some i =>
     rcases layOf_cases hl with rfl|rfl|rfl
     ·have h1:=table_callLay b tx s 0 hl (okJ pl) (pl.map Prod.fst) A n c _ w hR h.hr hm he _ (fun w' hb=>(h.below hb).nums s tx);rw[callX_nums hl] at h1;exact h1
     ·have h1:=table_callLay b tx s 1 hl (okJ pl) (pl.map Prod.fst) A n c _ w hR h.hr hm he _ (fun w' hb=>(h.below hb).texts s tx);rw[callX_texts hl] at h1;exact h1
     ·have h1:=table_callLay b tx s 2 hl (okJ pl) (pl.map Prod.fst) A n c _ w hR h.hr hm he _ (fun w' hb=>(h.below hb).aggs s tx);rw[callX_aggs hl] at h1;exact h1
   | none =>
     have hD:D1 50 s=false:=by
      cases hd:D1 50 s with
      | false=>rfl
      | true =>
        exfalso;unfold D1 at hd;rcases Bool.or_eq_true_iff.1 hd with h1|h1
        ·have h2:=isOwn_some h1;rw[ho] at h2;cases h2
        ·have h2:=first_layL h1;rw[hl] at h2;cases h2
     exact table_callNone b tx s hD (okJ pl) (pl.map Prod.fst) A n c _ w hR h.hr hm he
end
end Go.Proofs.YtnccknhbplaieaaGreatDoor
