/- Parts. -/
import Derived.Test.YtnccknhbplaieaaGreatDoorC28
set_option linter.all false
set_option maxRecDepth 100000
set_option maxHeartbeats 4000000
namespace Go.Proofs.YtnccknhbplaieaaGreatDoor
open Go Go.RowKit Go.Proofs.Tryz
open Go.Lib renaming hid->zh
open _root_.Nat renaming add_zero->Q3,lt_succ_of_lt->QA,le_trans->QC,add_assoc->QE,le_refl->QG,zero_le->QH
open _root_.List renaming getElem?_eq_getElem->Q4,take_of_length_le->Q5,countP_le_length->Q7,length_take->QB,countP_append->QD,countP_cons->QF,mem_cons->QI
open _root_.Bool renaming and_eq_true->Q8
open Go.World renaming block_lt_of_cell?->Q9
structure ArgsAt (w:World) (pl:List (Arg×List En)) (A:Option Addr) (n:Nat):Prop where
 hr:Reads w w.heap.size 11 A n (zAY (pl.map Prod.fst))
 hE:∀ p∈pl,zAW w p.1 p.2
 hT:(zA2 pl).length<=1000000000000
 hm:n<=1000000000000
 hnn:∀ p∈pl,p.1.n<=1000000000000
 h64:∀ p∈pl,Is64 p.1.val.num/\∀ e∈p.2,Is64 e.v.num
 hok:∀ p∈pl,argOk p.1 p.2=true
theorem ArgsAt.below {w W:World} {pl:List (Arg×List En)} {A:Option Addr} {n:Nat} (h:ArgsAt w pl A n) (hb:Below w.heap.size w W):ArgsAt W pl A n :=
 ⟨(h.hr.below hb).lift hb.size,fun p hp=>(h.hE p hp).below hb,h.hT,h.hm,h.hnn,h.h64,h.hok⟩
theorem zB7 {t l b r:Int} :∀ {o:Option En} {es:List En},zAm t l b r o es=true->∀ e∈es,mayG e.v=true/\inB t l b r e.row e.col=true
 | _,[],_=>fun e he=>by simp at he
 | none,x::es,h=>fun e he=>by
   unfold zAm at h;simp only[Q8] at h;rcases QI.1 he with rfl|he
   ·exact⟨h.1.2,h.1.1⟩
   ·exact zB7 h.2 e he
 | some _,x::es,h=>fun e he=>by
   unfold zAm at h;simp only[Q8] at h;rcases QI.1 he with rfl|he
   ·exact⟨h.1.1.2,h.1.1.1⟩
   ·exact zB7 h.2 e he
theorem items_may {w:World} {pl:List (Arg×List En)} {A:Option Addr} {n:Nat} (h:ArgsAt w pl A n):∀ v∈zA2 pl,mayG v=true/\Is64 v.num:=by
 intro v hv;obtain⟨p,hp,hv⟩:=List.mem_flatMap.1 hv;have h1:=h.hok p hp;have h2:=h.h64 p hp;have h3:=(h.hE p hp).1;unfold zBC at hv;unfold argOk at h1;by_cases hm:p.1.many=true
 ·rw[if_pos hm] at h1 hv;simp only[Q8] at h1;simp only[List.nil_append,List.mem_map] at hv;obtain⟨e,he,rfl⟩:=hv;exact⟨(zB7 h1.2 e he).1,h2.2 e he⟩
 ·rw[if_neg hm] at h1 hv;simp only[Q8,decide_eq_true_eq] at h1;have h4:p.2=[]:=List.length_eq_zero_iff.1 (by rw[h3];exact h1.1.2);rw[h4] at hv;simp only[List.map_nil,List.append_nil,QI,List.not_mem_nil,or_false] at hv;subst hv;exact⟨h1.2,h2.1⟩
theorem num_63 {v:V} (h:mayG v=true) (h64:Is64 v.num) (h1:v.tag=1):In63 v.num:=by
 unfold mayG at h;simp only[Q8,decide_eq_true_eq] at h;rw[if_pos h1] at h;have h5:v.num≠minI:=by simpa using h.2
 unfold minI at h5;unfold Is64 at h64;unfold In63;omega
theorem among_63 {w:World} {pl:List (Arg×List En)} {A:Option Addr} {n:Nat} (h:ArgsAt w pl A n):∀ x∈(zA9 (zA2 pl)).1,In63 x:=by
 intro x hx;unfold zA9 at hx;split at hx
 ·simp at hx
 ·simp only[numsOf,List.mem_map,List.mem_filter] at hx;obtain⟨v,⟨hv,h1⟩,rfl⟩:=hx;obtain⟨a,b⟩:=items_may h v hv;exact num_63 a b (by simpa [isN] using h1)
theorem among_le (vs:List V):(zA9 vs).1.length<=vs.length:=by
 unfold zA9;split
 ·simp
 ·exact zBl vs
theorem aggs_numbers0 (p k:Nat) (hk:∀ (args:Array Value) (w:World),Sem.run prog (callFunc k args) w=.ok (.enter k args) w) (pl:List (Arg×List En)) (A:Option Addr) (n c:Nat) (tx:Int) (w:World) (hp:w.cell? ⟨p,0,none⟩=some (.func (.func k) #[] #[])) (hP:ArgsAt w pl A n) (r:V)
  (hf:∀ W A' c',Below w.heap.size w W->Reads W W.heap.size 1 A' (zA9 (zA2 pl)).1.length (I (zA9 (zA2 pl)).1)->Calls prog k #[.slice A' (zA9 (zA2 pl)).1.length c'] W fun e w'=>e=.returned (vG r)/\Below W.heap.size W w') :
  Rt 297 #[.slice A n c,.int .i64 tx,.pointer (some ⟨p,0,none⟩)] w (vG (if (zA9 (zA2 pl)).2.tag=4 then (zA9 (zA2 pl)).2 else r)):=by
 have HI:=zh (fun W (hb:Below w.heap.size w W)=>aggs_items pl A n c W.heap.size W (hP.below hb).hr (hP.below hb).hE hP.hT hP.hm hP.hnn);have HA:=zh (fun A' c' B' W (h:Reads W B' 5 A' (zA2 pl).length (flat (zA2 pl)))=>aggs_among (zA2 pl) A' (zA2 pl).length c' B' W h hP.hT);obtain⟨L,hL⟩:=lt_ (zA2 pl);rw[hL] at HI HA hf ⊢;obtain⟨ls,hh⟩:=lt_ ((zA9 L).1);obtain⟨f,hg⟩:=lt_ ((zA9 L).2);rw[hh] at hf;simp only[hh,hg] at HA;rw[hg];have HF:=zh hf;have hl:=cltK hp;have he:p<w.heap.size+1:=QA hl;clear hh hg hL hP hf;by_cases h4:f.tag=4
 ·have hj:(f.tag==4)=true:=by simp[h4]
  rw[if_pos h4];clear h4;go_enter func297,ntmps297;go_wp2_with(first|(go_at_call 299;refine(HI.out _ bel).mono ?_;rintro e w1 ⟨v,rfl,ho,hb⟩;obtain⟨Ai,ci,rfl⟩:=zAB ho;have HO:=zh ho;clear ho;obtain⟨l1,q1,rfl⟩:=zA0 hb;clear hb)|(go_at_call 298;refine(HA.out _ _ _ _ (Reads.zAC HO.out)).mono ?_;rintro e w2 ⟨v,rfl,ha,hb⟩;obtain⟨Aj,cj,rfl⟩:=zAB ha;have hc:=zh ha;clear ha;obtain⟨l2,q2,rfl⟩:=zA0 hb;clear hb;rw[zAQ] at hc ⊢;obtain⟨lx,hd⟩:∃ lx,lx=l1++l2:=⟨_,rfl⟩;rw[<- hd] at hc ⊢;clear hd;have hi:p<w.heap.size+1+lx.length:=lt_len he))
  all_goals(go_returns;exact rb_)
 ·have hj:(f.tag==4)=false:=by simp[h4]
  rw[if_neg h4];clear h4;go_enter func297,ntmps297;go_wp2_with(first|(go_at_call 299;refine(HI.out _ bel).mono ?_;rintro e w1 ⟨v,rfl,ho,hb⟩;obtain⟨Ai,ci,rfl⟩:=zAB ho;have HO:=zh ho;clear ho;obtain⟨l1,q1,rfl⟩:=zA0 hb;clear hb)|(go_at_call 298;refine(HA.out _ _ _ _ (Reads.zAC HO.out)).mono ?_;rintro e w2 ⟨v,rfl,ha,hb⟩;obtain⟨Aj,cj,rfl⟩:=zAB ha;have hc:=zh ha;clear ha;obtain⟨l2,q2,rfl⟩:=zA0 hb;clear hb;rw[zAQ] at hc ⊢;obtain⟨lx,hd⟩:∃ lx,lx=l1++l2:=⟨_,rfl⟩;rw[<- hd] at hc ⊢;clear hd;have hi:p<w.heap.size+1+lx.length:=lt_len he)|(with_reducible refine Calls.mono (HF.out _ _ _ bel ((Reads.zAC (own_below hc.out bel)))) ?_;rintro e w3 ⟨rfl,hb⟩;obtain⟨l3,q3,rfl⟩:=zA0 hb;clear hb))
  all_goals(go_returns;exact rb_)
theorem aggs_numbers1 (p k pc:Nat) (hk:∀ (args:Array Value) (w:World),Sem.run prog (callFunc k args) w=.ok (.enter k args) w) (pl:List (Arg×List En)) (A:Option Addr) (n c:Nat) (tx:Int) (w:World) (hp:w.cell? ⟨p,0,none⟩=some (.func (.func k) #[] #[.pointer (some ⟨pc,0,none⟩)])) (hP:ArgsAt w pl A n) (r:V)
  (hf:∀ W A' c',Below w.heap.size w W->Reads W W.heap.size 1 A' (zA9 (zA2 pl)).1.length (I (zA9 (zA2 pl)).1)->Calls prog k #[.slice A' (zA9 (zA2 pl)).1.length c',.pointer (some ⟨pc,0,none⟩)] W fun e w'=>e=.returned (vG r)/\Below W.heap.size W w') :
  Rt 297 #[.slice A n c,.int .i64 tx,.pointer (some ⟨p,0,none⟩)] w (vG (if (zA9 (zA2 pl)).2.tag=4 then (zA9 (zA2 pl)).2 else r)):=by
 have HI:=zh (fun W (hb:Below w.heap.size w W)=>aggs_items pl A n c W.heap.size W (hP.below hb).hr (hP.below hb).hE hP.hT hP.hm hP.hnn);have HA:=zh (fun A' c' B' W (h:Reads W B' 5 A' (zA2 pl).length (flat (zA2 pl)))=>aggs_among (zA2 pl) A' (zA2 pl).length c' B' W h hP.hT);obtain⟨L,hL⟩:=lt_ (zA2 pl);rw[hL] at HI HA hf ⊢;obtain⟨ls,hh⟩:=lt_ ((zA9 L).1);obtain⟨f,hg⟩:=lt_ ((zA9 L).2);rw[hh] at hf;simp only[hh,hg] at HA;rw[hg];have HF:=zh hf;have hl:=cltK hp;have he:p<w.heap.size+1:=QA hl;clear hh hg hL hP hf;by_cases h4:f.tag=4
 ·have hj:(f.tag==4)=true:=by simp[h4]
  rw[if_pos h4];clear h4;go_enter func297,ntmps297;go_wp2_with(first|(go_at_call 299;refine(HI.out _ bel).mono ?_;rintro e w1 ⟨v,rfl,ho,hb⟩;obtain⟨Ai,ci,rfl⟩:=zAB ho;have HO:=zh ho;clear ho;obtain⟨l1,q1,rfl⟩:=zA0 hb;clear hb)|(go_at_call 298;refine(HA.out _ _ _ _ (Reads.zAC HO.out)).mono ?_;rintro e w2 ⟨v,rfl,ha,hb⟩;obtain⟨Aj,cj,rfl⟩:=zAB ha;have hc:=zh ha;clear ha;obtain⟨l2,q2,rfl⟩:=zA0 hb;clear hb;rw[zAQ] at hc ⊢;obtain⟨lx,hd⟩:∃ lx,lx=l1++l2:=⟨_,rfl⟩;rw[<- hd] at hc ⊢;clear hd;have hi:p<w.heap.size+1+lx.length:=lt_len he))
  all_goals(go_returns;exact rb_)
 ·have hj:(f.tag==4)=false:=by simp[h4]
  rw[if_neg h4];clear h4;go_enter func297,ntmps297;go_wp2_with(first|(go_at_call 299;refine(HI.out _ bel).mono ?_;rintro e w1 ⟨v,rfl,ho,hb⟩;obtain⟨Ai,ci,rfl⟩:=zAB ho;have HO:=zh ho;clear ho;obtain⟨l1,q1,rfl⟩:=zA0 hb;clear hb)|(go_at_call 298;refine(HA.out _ _ _ _ (Reads.zAC HO.out)).mono ?_;rintro e w2 ⟨v,rfl,ha,hb⟩;obtain⟨Aj,cj,rfl⟩:=zAB ha;have hc:=zh ha;clear ha;obtain⟨l2,q2,rfl⟩:=zA0 hb;clear hb;rw[zAQ] at hc ⊢;obtain⟨lx,hd⟩:∃ lx,lx=l1++l2:=⟨_,rfl⟩;rw[<- hd] at hc ⊢;clear hd;have hi:p<w.heap.size+1+lx.length:=lt_len he)|(with_reducible refine Calls.mono (HF.out _ _ _ bel ((Reads.zAC (own_below hc.out bel)))) ?_;rintro e w3 ⟨rfl,hb⟩;obtain⟨l3,q3,rfl⟩:=zA0 hb;clear hb))
  all_goals(go_returns;exact rb_)
theorem aggs_some (p k:Nat) (hk:∀ (args:Array Value) (w:World),Sem.run prog (callFunc k args) w=.ok (.enter k args) w) (l:List Int) (A:Option Addr) (c:Nat) (w:World) (hp:w.cell? ⟨p,0,none⟩=some (.func (.func k) #[] #[])) (hr:Reads w w.heap.size 1 A l.length (I l)) (r:Int)
  (hf:0<l.length->∀ W,Below w.heap.size w W->Reads W W.heap.size 1 A l.length (I l)->Calls prog k #[.slice A l.length c] W fun e w'=>e=.returned (.int .i64 r)/\Below W.heap.size W w') :
  Rt 302 #[.slice A l.length c,.pointer (some ⟨p,0,none⟩)] w (vG (if l.length=0 then errG 6 else numG r)):=by
 have HR:=zh hr;have ha:=cltK hp;have hc:p<w.heap.size+1:=QA ha;clear hr;obtain⟨n,hn⟩:=lt_ l.length;rw[hn] at hf HR ⊢;clear hn;by_cases h0:n=0
 ·subst h0;rw[if_pos rfl];go_enter func302,ntmps302;go_wp2_with(go_at_call 13;refine mB (zA3 _ _) ?_;intro l3 q3)
  all_goals(go_returns;exact rb_)
 ·rw[if_neg h0];have HF:=zh (hf (by omega));have h0':(((n:Nat):Int)==0)=false:=by simpa using h0
  clear hf h0;go_enter func302,ntmps302;go_wp2_with(first|(with_reducible refine Calls.mono (HF.out _ bel ((HR.out.below bel).lift (show Below w.heap.size w _ from bel).size)) ?_;rintro e w3 ⟨rfl,hb⟩;obtain⟨l3,q3,rfl⟩:=zA0 hb;clear hb)|(go_at_call 140;refine mB (zB2 _ _) ?_;intro l4 q4))
  all_goals(go_returns;exact rb_)
theorem aggs_sumit (l:List Int) (A:Option Addr) (c:Nat) (w:World) (hr:Reads w w.heap.size 1 A l.length (I l)) (hm:l.length<=1000000000000) (h64:∀ x∈l,Is64 x) :
  Rt 230 #[.slice A l.length c] w (vG (fitG l.sum)):=by
 have HS:=zh (fun W (hb:Below w.heap.size w W)=>aggs_sum l A l.length c _ W (hr.below hb) hm h64);obtain⟨S,hS⟩:=lt_ l.sum;rw[hS] at HS ⊢;obtain⟨n,hn⟩:=lt_ l.length;rw[hn] at HS ⊢;clear hr hm h64 hS hn;go_enter func230,ntmps230;go_wp2_with(first|(go_at_call 232;refine mB (HS.out _ bel) ?_;intro l3 q3)|(go_at_call 231;refine mB (aggs_fit S _) ?_;intro l4 q4))
 all_goals(go_returns;exact rb_)
theorem aggs_count (p k:Nat) (hk:∀ (args:Array Value) (w:World),Sem.run prog (callFunc k args) w=.ok (.enter k args) w) (f:V->Bool) (hf:∀ v W,Calls prog k #[(vG v)] W fun e w'=>e=.returned (.bool (f v))/\Below W.heap.size W w')
  (pl:List (Arg×List En)) (A:Option Addr) (n c:Nat) (tx:Int) (w:World) (hp:w.cell? ⟨p,0,none⟩=some (.func (.func k) #[] #[])) (hP:ArgsAt w pl A n) :
  Rt 307 #[.slice A n c,.int .i64 tx,.pointer (some ⟨p,0,none⟩)] w (vG (numG (((zA2 pl).countP f:Int)*10000))):=by
 have HI:=zh (fun W (hb:Below w.heap.size w W)=>aggs_items pl A n c W.heap.size W (hP.below hb).hr (hP.below hb).hE hP.hT hP.hm hP.hnn);have hT:=hP.hT;obtain⟨us,hL⟩:=lt_ (zA2 pl);rw[hL] at HI hT ⊢;have HF:=zh hf;have hs:=cltK hp;have hy:p<w.heap.size+1:=QA hs;clear hL hP hf;go_enter func307,ntmps307;go_wp2_with(go_at_call 299;refine(HI.out _ bel).mono ?_;rintro e w1 ⟨v,rfl,ho,hb⟩;obtain⟨Ai,ci,rfl⟩:=zAB ho;have HO:=zh ho;clear ho;obtain⟨l1,q1,rfl⟩:=zA0 hb;clear hb)
 obtain⟨WX,hd⟩:∃ WX,WX=more (w.alloc zeroV) l1 q1:=⟨_,rfl⟩
 have hl:=zh (show Below (w.alloc zeroV).heap.size (w.alloc zeroV) WX by rw[hd];exact zAf (QG _));have hv:=zh (show Reads WX WX.heap.size 5 Ai us.length (flat us) by rw[hd];exact Reads.zAC HO.out);have hw:=zh hd;clear HO hd
 go_loopw [12,6] (fun t v wr=>∃ j:Nat,j<=us.length/\t=.int .i64 j/\v=.int .i64 ((us.take j).countP f:Nat)/\Below WX.heap.size WX wr) (fun t _ _=>us.length-(intOf t).toNat)
 case atStart=>exact⟨0,QH _,rfl,rfl,by rw[hw.out];exact Below.refl _ _⟩
 case round =>
  obtain⟨j,hj,rfl,rfl,hB⟩:=hrel;have hg:=hl.out.trans (hB.mono hl.out.size);have hh:Below w.heap.size w wr:=(show Below w.heap.size w (w.alloc zeroV) from bel).trans (hg.mono (by simp));have hp2:wr.cell? ⟨p,0,none⟩=some (.func (.func k) #[] #[]):=cell_below hp hh;have hA:p<wr.heap.size:=Nat.lt_of_lt_of_le hs hh.size;have HB:=zh hB;have ht:=zh hg;clear hB hg hh;by_cases hlt:j<us.length
  ·obtain⟨x,hx⟩:∃ x,us[j]? =some x:=⟨_,Q4 hlt⟩
   obtain⟨bk,off,rfl,_,hc⟩:=hv.out.2 (by omega);have ha:∀ i u,x.cells[i]? =some u->wr.cell? ⟨bk,off+(j*5+i),none⟩=some u:=fun i u hu=>cell_below (hc _ u (flat_at us j x hx i u hu)) HB.out;obtain⟨c0,c1,c2,c3,c4⟩:=tk5 ha;simp only[<- QE,Q3] at c0 c1 c2 c3 c4;have hbr:=cltK c0;have hi:(us.take j).countP f<=j:=QC Q7 (by rw[QB];omega);have he:(us.take (j+1)).countP f=(us.take j).countP f+(if f x then 1 else 0):=by rw[zAJ hx,QD];simp[QF]
   have hq:=zh (HF.out x);obtain⟨z,hz⟩:=lt_ (f x);rw[hz] at hq he;obtain⟨m,hm⟩:=lt_ ((us.take j).countP f);rw[hm] at hi he ⊢;have hn:=zh he;clear ha hc hx hz he hm;cases z;all_goals go_wp2_with(with_reducible refine Calls.mono (hq.out _) ?_;rintro e w3 ⟨rfl,hb⟩;obtain⟨l3,q3,rfl⟩:=zA0 hb;clear hb)
   all_goals go_roundw
   case rel=>exact⟨j+1,by omega,by go_num,by rw[hn.out];simp,HB.out.trans ((show Below wr.heap.size wr _ from bel).mono HB.out.size)⟩
   case measure=>simp[intOf];omega
   case rel=>exact⟨j+1,by omega,by go_num,by rw[hn.out];go_num,HB.out.trans ((show Below wr.heap.size wr _ from bel).mono HB.out.size)⟩
   case measure=>simp[intOf];omega
  ·obtain rfl:j=us.length:=by omega
   rw[Q5 (QG _)];have hi:us.countP f<=1000000000000:=QC Q7 hT;obtain⟨m,hm⟩:=lt_ (us.countP f);have HM:=zh hm;rw[hm] at hi ⊢;clear hm;obtain⟨l0,q0,hC⟩:=zA0 ht.out;subst hC;unfold zeroV at *;go_wp2_with(go_at_call 251;refine mB (aggs_whole _ (by omega) (by omega) _) ?_;intro l3 q3)
   all_goals(go_returns;exact⟨by rw[HM.out],bel⟩)
def elV (v:V):Value:=(vG v)
def plE (a:Arg) (e:En):Int×Int:=(e.row-a.top,e.col-a.left)
def heldP (a:Arg) (es:List En):List ((Int×Int)×Value):=es.map fun e=>(plE a e,elV e.v)
def SmallE (e:En):Prop:=(-100000<=e.row/\e.row<=100000)/\(-100000<=e.col/\e.col<=100000)
def argO (a:Arg) (A:Option Addr):Obj:=.cells #[.bool a.many,.int .i64 a.val.tag,.int .i64 a.val.num,.string a.val.str,.bool a.val.is,.int .i64 a.val.code,.int .i64 a.top,.int .i64 a.left,.int .i64 a.bottom,.int .i64 a.right,.slice A a.n a.c] 51
theorem PlMap.at0 {w w':World} {b:Nat} {es:List ((Int×Int)×Value)} (h:PlMap prog 273 w b es) (hb:Below w.heap.size w w'):PlMap prog 273 w' b es:=h.below hb h.lt
theorem aggs_held (a:Arg) (es:List En) (w:World) (hE:zAW w a es) (hs:zA4 a) (hes:∀ e∈es,SmallE e) (hn:a.n<=1000000000000) :
  Calls prog 309 #[a.agg] w fun e w'=>∃ b,e=.returned (.map (some b))/\PlMap prog 273 w' b (heldP a es)/\w.heap.size<=b/\Below w.heap.size w w':=by
 obtain⟨hel,hf⟩:=hE;obtain⟨Ae,hd⟩:=lt_ a.ents;rw[hd] at hf;have ho:=zh hf;have hp:=zh hes;have hr:=zh hs;have hmk:= @run_makeMap prog;clear hf hes hs;unfold Arg.agg;rw[hd];clear hd;go_enter func309,ntmps309;go_wp2
 go_loopw [10] (fun t wr=>∃ j:Nat,j<=a.n/\t=.int .i64 j/\PlMap prog 273 wr (w.heap.size+1) (heldP a (es.take j))/\Below (w.alloc (argO a Ae)).heap.size (w.alloc (argO a Ae)) wr) (fun t _=>a.n-(intOf t).toNat)
 case atStart =>
  refine⟨0,QH _,rfl,?_,zBb (Below.refl _ _) _ (QG _)⟩;have h:=PlMap.made prog 273 (w.alloc (argO a Ae));rw[World.size_alloc] at h;exact h
 case round =>
  obtain⟨j,hj,rfl,hM,hB⟩:=hrel;have hi:Below w.heap.size w wr:=(show Below w.heap.size w (w.alloc (argO a Ae)) from bel).trans (hB.mono (by simp));have pc:∀ i u,(#[Value.bool a.many,.int .i64 a.val.tag,.int .i64 a.val.num,.string a.val.str,.bool a.val.is,.int .i64 a.val.code,.int .i64 a.top,.int .i64 a.left,.int .i64 a.bottom,.int .i64 a.right,.slice Ae a.n a.c]:Array Value).toList[i]? =some u->wr.cell? ⟨w.heap.size,i,none⟩=some u:=fun i u hu=>((AtB.new (w:=w) (t:=51) rfl).below hB) i u hu;have p6:=pc 6 _ rfl;have p7:=pc 7 _ rfl;have hbl:=hM.lt;have hbw:w.heap.size<wr.heap.size:=by omega
  have HM:=zh hM;have HB:=zh hB;have hh:=zh hi;clear pc hM hB hi;by_cases hlt:j<a.n
  ·obtain⟨x,hx⟩:∃ x,es[j]? =some x:=⟨_,Q4 (show j<es.length by omega)⟩
   obtain⟨bk,off,rfl,_,hc⟩:=ho.out.2 (by omega);have ha:∀ i u,x.cells[i]? =some u->wr.cell? ⟨bk,off+(j*7+i),none⟩=some u:=fun i u hu=>by
    have h1:=hc _ u (flatC_at En.cells 7 (fun _=>rfl) es j x hx i u hu);exact(hh.out.cell (p:=⟨bk,_,none⟩) (Q9 w _ h1)).trans h1
   obtain⟨e0,e1,e2,e3,e4,e5,e6⟩:=tk7 ha;simp only[<- QE,Q3] at e0 e1 e2 e3 e4 e5 e6;have hbr:=cltK e0;have hl:=hp.out x (List.mem_of_getElem? hx);have hk:=hr.out;unfold SmallE at hl;unfold zA4 at hk;have s1:wrap64 (x.row-a.top)=x.row-a.top:=wr64 (by omega) (by omega);have s2:wrap64 (x.col-a.left)=x.col-a.left:=wr64 (by omega) (by omega);have hq:=zh (show Ok64 (plE a x) from ⟨⟨by unfold plE;simp only;omega,by unfold plE;simp only;omega⟩,⟨by unfold plE;simp only;omega,by unfold plE;simp only;omega⟩⟩);have HX:=zh (show heldP a (es.take j)++[(plE a x,elV x.v)]=heldP a (es.take (j+1)) by rw[zAJ hx];simp[heldP]);have hll:(heldP a (es.take j)).length<=j:=by unfold heldP;rw[List.length_map,QB];omega
   clear ha hc hx hl hk;go_wp2_with(refine wpList_updateP _ rfl 270 _ _ _ rfl 273 29 place_key underlying270 (w.heap.size+1) _ rfl (HM.out.at0 bel) ?_ (plE a x) rfl hq.out (elV x.v) rfl ?_)
   ·simp only[maxLen];omega
   ·intro w2 he hg;rw[HX.out] at he;have hb:=zh he;have hm:=zh ((HB.out.trans ((show Below wr.heap.size wr _ from bel).mono HB.out.size)).grown hg (by have:=HB.out.size;simp at this ⊢;omega) (fun k e=>by cases e;simp));clear he hg HM e0 e1 e2 e3 e4 e5 e6;go_wp2;go_roundw;case rel=>exact⟨j+1,by omega,by go_num,hb.out,hm.out⟩
    case measure=>simp[intOf];omega
  ·obtain rfl:j=a.n:=by omega
   have hM:=HM.out;rw[Q5 (by omega)] at hM;have hb:=zh hM;clear hM HM;go_wp2;all_goals(go_returns;exact⟨_,rfl,hb.out,by omega,hh.out⟩)
def countifG (a:Arg) (es:List En) (v:V):V:=numG (((if v.tag=0 then rowsG a*colsG a-a.n else 0)+(es.countP fun e=>eqB e.v v:Nat))*10000)
theorem aggs_ROWS (a:Arg) (b off c:Nat) (tx:Int) (w:World) (hc:∀ i u,a.cells[i]? =some u->w.cell? ⟨b,off+i,none⟩=some u) (hs:zA4 a) :
  Rt 250 #[.slice (some ⟨b,off,none⟩) 1 c,.int .i64 tx] w (vG (numG (rowsG a*10000))):=by
 have HR:=zh (aggs_rows a hs);have HW:=zh (aggs_whole (rowsG a) (by unfold rowsG;unfold zA4 at hs;omega) (by unfold rowsG;unfold zA4 at hs;omega));obtain⟨c0,c1,c2,c3,c4,c5,c6,c7,c8,c9,c10⟩:=tkB hc;have hb:=cltK c0;rw[Q3] at c0;clear hc hs;go_enter func250,ntmps250;go_wp2_with(first|(go_at_call 252;refine mB (HR.out _) ?_;intro l3 q3)|(go_at_call 251;refine mB (HW.out _) ?_;intro l4 q4))
 all_goals(go_returns;exact rb_)
theorem aggs_COLS (a:Arg) (b off c:Nat) (tx:Int) (w:World) (hc:∀ i u,a.cells[i]? =some u->w.cell? ⟨b,off+i,none⟩=some u) (hs:zA4 a) :
  Rt 253 #[.slice (some ⟨b,off,none⟩) 1 c,.int .i64 tx] w (vG (numG (colsG a*10000))):=by
 have HR:=zh (aggs_cols a hs);have HW:=zh (aggs_whole (colsG a) (by unfold colsG;unfold zA4 at hs;omega) (by unfold colsG;unfold zA4 at hs;omega));obtain⟨c0,c1,c2,c3,c4,c5,c6,c7,c8,c9,c10⟩:=tkB hc;have hb:=cltK c0;rw[Q3] at c0;clear hc hs;go_enter func253,ntmps253;go_wp2_with(first|(go_at_call 254;refine mB (HR.out _) ?_;intro l3 q3)|(go_at_call 251;refine mB (HW.out _) ?_;intro l4 q4))
 all_goals(go_returns;exact rb_)
theorem aggs_countif (a:Arg) (es:List En) (v:V) (w:World) (hE:zAW w a es) (hs:zA4 a) (hn:a.n<=1000000000) :
  Rt 243 #[a.agg,(vG v)] w (vG (countifG a es v)):=by
 obtain⟨hL,hA⟩:=hE;have hF: -50000000000<=rowsG a*colsG a/\rowsG a*colsG a<=50000000000:=by
  have h1: -200001<=rowsG a/\rowsG a<=200001:=by unfold rowsG;unfold zA4 at hs;omega
  have h2: -200001<=colsG a/\colsG a<=200001:=by unfold colsG;unfold zA4 at hs;omega
  have h3:(rowsG a*colsG a).natAbs<=200001*200001:=by rw[Int.natAbs_mul];exact Nat.mul_le_mul (by omega) (by omega)
  omega
 have ht:=zh (aggs_rows a hs);have hr:=zh (aggs_cols a hs);unfold countifG;obtain⟨ra,hD⟩:=lt_ (rowsG a);obtain⟨ca,hy⟩:=lt_ (colsG a);rw[hD] at ht;rw[hy] at hr;rw[hD,hy] at hF ⊢;obtain⟨z,hz⟩:=lt_ (if v.tag=0 then ra*ca-a.n else 0);rw[hz];have HZ:=zh hz;have hi:=zh hF;clear hD hy hs hz hF;obtain⟨Ae,hw⟩:=lt_ a.ents;obtain⟨n,ho⟩:=lt_ a.n;rw[hw,ho] at hA;rw[ho] at hL hn;have hI:=zh hA;have HZ:=zh (show (if v.tag=0 then ra*ca-(n:Int) else 0)=z by rw[<- ho];exact HZ.out);unfold Arg.agg at *;rw[hw,ho] at ht hr ⊢;clear hA hw ho;have hq:=fun (x:V)=>eqlV x.tag x.num x.str x.is x.code v.tag v.num v.str v.is v.code;have HQ:=zh hq;clear hq;go_enter func243,ntmps243;by_cases hv:v.tag=0
 ·have hM:(v.tag==0)=true:=by simp[hv]
  have hz:ra*ca-(n:Int)=z:=by have:=HZ.out;rw[if_pos hv] at this;exact this
  have w1:wrap64 (ra*ca)=ra*ca:=wr64 (by have:=hi.out;omega) (by have:=hi.out;omega);have w2:wrap64 (ra*ca-(n:Int))=z:=by rw[hz];exact wr64 (by have:=hi.out;omega) (by have:=hi.out;omega)
  have hP: -60000000000<=z/\z<=60000000000:=by have:=hi.out;omega
  clear hv hz;go_wp2;all_goals(refine qmI ?_;(repeat(go_big_quiet_step (first|(go_at_call 252;exact Calls.zA1 (ht.out _))|(go_at_call 254;exact Calls.zA1 (hr.out _)))));refine qmE ?_;intro lq nq);all_goals go_wp2;obtain⟨W2,hb⟩:∃ W2,W2=((w.alloc (.cells #[.bool a.many,.int .i64 a.val.tag,.int .i64 a.val.num,.string a.val.str,.bool a.val.is,.int .i64 a.val.code,.int .i64 a.top,.int .i64 a.left,.int .i64 a.bottom,.int .i64 a.right,.slice Ae n a.c] 51)).alloc (.cells #[.int .i64 v.tag,.int .i64 v.num,.string v.str,.bool v.is,.int .i64 v.code] 29)).alloc zObj:=⟨_,rfl⟩
  have hk:=zh hb;have hg:=zh (show Below w.heap.size w W2 by rw[hb];exact bel);have HV:=zh (show ∀ i u,v.cells[i]? =some u->W2.cell? ⟨w.heap.size+1,i,none⟩=some u from fun i u hu=>by
   have h1:=(AtB.new (w:=w.alloc (.cells #[.bool a.many,.int .i64 a.val.tag,.int .i64 a.val.num,.string a.val.str,.bool a.val.is,.int .i64 a.val.code,.int .i64 a.top,.int .i64 a.left,.int .i64 a.bottom,.int .i64 a.right,.slice Ae n a.c] 51)) (cs:=#[.int .i64 v.tag,.int .i64 v.num,.string v.str,.bool v.is,.int .i64 v.code]) (t:=29) (p:=w.heap.size+1) (by simp)).allocI zObj;rw[hb];exact h1 i u hu)
  have hG:W2.heap.size=w.heap.size+3:=by rw[hb];simp
  clear hb
  go_loopw [23,5] (fun t m wr=>∃ j:Nat,j<=n/\t=.int .i64 j/\m=.int .i64 (z+((es.take j).countP fun e=>eqB e.v v:Nat))/\Below W2.heap.size W2 wr) (fun t _ _=>n-(intOf t).toNat)
  case atStart=>exact⟨0,QH _,rfl,by rw[w2];simp,by rw[hk.out];exact zAf (QG _)⟩
  case round =>
   obtain⟨j,hj,rfl,rfl,hB⟩:=hrel;have hO:=hB.size;have hl:Below w.heap.size w wr:=hg.out.trans (hB.mono hg.out.size);have hv:∀ i u,v.cells[i]? =some u->wr.cell? ⟨w.heap.size+1,i,none⟩=some u:=fun i u hu=>cell_below (HV.out i u hu) hB;obtain⟨v0,v1,v2,v3,v4⟩:=tk5 hv;have hN:w.heap.size+1<wr.heap.size:=by omega
   have hf:((es.take j).countP fun e=>eqB e.v v)<=j:=QC Q7 (by rw[QB];omega);have HB:=zh hB;have hp:=zh hl;clear hv hB hl;by_cases hlt:j<n
   ·obtain⟨x,hx⟩:∃ x,es[j]? =some x:=⟨_,Q4 (show j<es.length by omega)⟩
    obtain⟨bk,off,rfl,_,hc⟩:=hI.out.2 (by omega);have ha:∀ i u,x.cells[i]? =some u->wr.cell? ⟨bk,off+(j*7+i),none⟩=some u:=fun i u hu=>by
     have h1:=hc _ u (flatC_at En.cells 7 (fun _=>rfl) es j x hx i u hu);exact(hp.out.cell (p:=⟨bk,_,none⟩) (Q9 w _ h1)).trans h1
    obtain⟨e0,e1,e2,e3,e4,e5,e6⟩:=tk7 ha;simp only[<- QE,Q3] at e0 e1 e2 e3 e4 e5 e6;have hK:=cltK e0;have hd:((es.take (j+1)).countP fun e=>eqB e.v v)=((es.take j).countP fun e=>eqB e.v v)+(if eqB x.v v then 1 else 0):=by rw[zAJ hx,QD];simp[QF]
    have hC:=HQ.out x.v;obtain⟨bz,he⟩:=lt_ (eqB x.v v);rw[he] at hd;rw[show eqB ⟨x.v.tag,x.v.num,x.v.str,x.v.is,x.v.code⟩ ⟨v.tag,v.num,v.str,v.is,v.code⟩=bz from he] at hC;obtain⟨m,hm⟩:=lt_ ((es.take j).countP fun e=>eqB e.v v);rw[hm] at hd hf ⊢;have hh:=zh hd;have w3:wrap64 (z+(m:Int)+1)=z+(m:Int)+1:=wr64 (by omega) (by omega);clear ha hc hx hd he hm;cases bz;all_goals go_wp2;all_goals go_roundw
    case rel=>exact⟨j+1,by omega,by go_num,by rw[hh.out];simp,HB.out.trans ((show Below wr.heap.size wr _ from bel).mono HB.out.size)⟩
    case measure=>simp[intOf];omega
    case rel=>exact⟨j+1,by omega,by go_num,by rw[hh.out];simp;omega,HB.out.trans ((show Below wr.heap.size wr _ from bel).mono HB.out.size)⟩
    case measure=>simp[intOf];omega
   ·obtain rfl:j=n:=by omega
    rw[Q5 (by omega)] at hf ⊢;obtain⟨m,hm⟩:=lt_ (es.countP fun e=>eqB e.v v);have HM:=zh hm;rw[hm] at hf ⊢;obtain⟨l0,q0,hH⟩:=zA0 HB.out;subst hH;have hb:=hk.out;subst hb;clear hm v0 v1 v2 v3 v4;go_wp2_with(go_at_call 251;refine mB (aggs_whole _ (by omega) (by omega) _) ?_;intro l3 q3)
    all_goals(go_returns;exact⟨by rw[HM.out],bel⟩)
 ·have hM:(v.tag==0)=false:=by simp[hv]
  have hz:0=z:=by have:=HZ.out;rw[if_neg hv] at this;exact this
  have hP: -60000000000<=z/\z<=60000000000:=by omega
  have hJ:=zh hz;clear hv hz;go_wp2;obtain⟨W2,hb⟩:∃ W2,W2=((w.alloc (.cells #[.bool a.many,.int .i64 a.val.tag,.int .i64 a.val.num,.string a.val.str,.bool a.val.is,.int .i64 a.val.code,.int .i64 a.top,.int .i64 a.left,.int .i64 a.bottom,.int .i64 a.right,.slice Ae n a.c] 51)).alloc (.cells #[.int .i64 v.tag,.int .i64 v.num,.string v.str,.bool v.is,.int .i64 v.code] 29)).alloc zObj:=⟨_,rfl⟩
  have hk:=zh hb;have hg:=zh (show Below w.heap.size w W2 by rw[hb];exact bel);have HV:=zh (show ∀ i u,v.cells[i]? =some u->W2.cell? ⟨w.heap.size+1,i,none⟩=some u from fun i u hu=>by
   have h1:=(AtB.new (w:=w.alloc (.cells #[.bool a.many,.int .i64 a.val.tag,.int .i64 a.val.num,.string a.val.str,.bool a.val.is,.int .i64 a.val.code,.int .i64 a.top,.int .i64 a.left,.int .i64 a.bottom,.int .i64 a.right,.slice Ae n a.c] 51)) (cs:=#[.int .i64 v.tag,.int .i64 v.num,.string v.str,.bool v.is,.int .i64 v.code]) (t:=29) (p:=w.heap.size+1) (by simp)).allocI zObj;rw[hb];exact h1 i u hu)
  have hG:W2.heap.size=w.heap.size+3:=by rw[hb];simp
  clear hb
  go_loopw [23,5] (fun t m wr=>∃ j:Nat,j<=n/\t=.int .i64 j/\m=.int .i64 (z+((es.take j).countP fun e=>eqB e.v v:Nat))/\Below W2.heap.size W2 wr) (fun t _ _=>n-(intOf t).toNat)
  case atStart=>exact⟨0,QH _,rfl,by rw[<- hJ.out];rfl,by rw[hk.out];exact Below.refl _ _⟩
  case round =>
   obtain⟨j,hj,rfl,rfl,hB⟩:=hrel;have hO:=hB.size;have hl:Below w.heap.size w wr:=hg.out.trans (hB.mono hg.out.size);have hv:∀ i u,v.cells[i]? =some u->wr.cell? ⟨w.heap.size+1,i,none⟩=some u:=fun i u hu=>cell_below (HV.out i u hu) hB;obtain⟨v0,v1,v2,v3,v4⟩:=tk5 hv;have hN:w.heap.size+1<wr.heap.size:=by omega
   have hf:((es.take j).countP fun e=>eqB e.v v)<=j:=QC Q7 (by rw[QB];omega);have HB:=zh hB;have hp:=zh hl;clear hv hB hl;by_cases hlt:j<n
   ·obtain⟨x,hx⟩:∃ x,es[j]? =some x:=⟨_,Q4 (show j<es.length by omega)⟩
    obtain⟨bk,off,rfl,_,hc⟩:=hI.out.2 (by omega);have ha:∀ i u,x.cells[i]? =some u->wr.cell? ⟨bk,off+(j*7+i),none⟩=some u:=fun i u hu=>by
     have h1:=hc _ u (flatC_at En.cells 7 (fun _=>rfl) es j x hx i u hu);exact(hp.out.cell (p:=⟨bk,_,none⟩) (Q9 w _ h1)).trans h1
    obtain⟨e0,e1,e2,e3,e4,e5,e6⟩:=tk7 ha;simp only[<- QE,Q3] at e0 e1 e2 e3 e4 e5 e6;have hK:=cltK e0;have hd:((es.take (j+1)).countP fun e=>eqB e.v v)=((es.take j).countP fun e=>eqB e.v v)+(if eqB x.v v then 1 else 0):=by rw[zAJ hx,QD];simp[QF]
    have hC:=HQ.out x.v;obtain⟨bz,he⟩:=lt_ (eqB x.v v);rw[he] at hd;rw[show eqB ⟨x.v.tag,x.v.num,x.v.str,x.v.is,x.v.code⟩ ⟨v.tag,v.num,v.str,v.is,v.code⟩=bz from he] at hC;obtain⟨m,hm⟩:=lt_ ((es.take j).countP fun e=>eqB e.v v);rw[hm] at hd hf ⊢;have hh:=zh hd;have w3:wrap64 (z+(m:Int)+1)=z+(m:Int)+1:=wr64 (by omega) (by omega);clear ha hc hx hd he hm;cases bz;all_goals go_wp2;all_goals go_roundw
    case rel=>exact⟨j+1,by omega,by go_num,by rw[hh.out];simp,HB.out.trans ((show Below wr.heap.size wr _ from bel).mono HB.out.size)⟩
    case measure=>simp[intOf];omega
    case rel=>exact⟨j+1,by omega,by go_num,by rw[hh.out];simp;omega,HB.out.trans ((show Below wr.heap.size wr _ from bel).mono HB.out.size)⟩
    case measure=>simp[intOf];omega
   ·obtain rfl:j=n:=by omega
    rw[Q5 (by omega)] at hf ⊢;obtain⟨m,hm⟩:=lt_ (es.countP fun e=>eqB e.v v);have HM:=zh hm;rw[hm] at hf ⊢;obtain⟨l0,q0,hH⟩:=zA0 HB.out;subst hH;have hb:=hk.out;subst hb;clear hm v0 v1 v2 v3 v4;go_wp2_with(go_at_call 251;refine mB (aggs_whole _ (by omega) (by omega) _) ?_;intro l3 q3)
    all_goals(go_returns;exact⟨by rw[HM.out],bel⟩)
theorem aggs_BLANKS (a0:Arg) (es:List En) (b off c:Nat) (tx:Int) (w:World) (hc0:∀ i u,a0.cells[i]? =some u->w.cell? ⟨b,off+0+i,none⟩=some u) (hE:zAW w a0 es) (hs:zA4 a0) (hn:a0.n<=1000000000) :
  Rt 242 #[.slice (some ⟨b,off,none⟩) 1 c,.int .i64 tx] w (vG (countifG a0 es zeroG)):=by
 have HC:=zh (fun W (hb:Below w.heap.size w W)=>aggs_countif a0 es zeroG W (hE.below hb) hs hn);obtain⟨c0,c1,c2,c3,c4,c5,c6,c7,c8,c9,c10⟩:=tkB hc0;have hb:=cltK c0;simp only[Q3] at c0 c1 c2 c3 c4 c5 c6 c7 c8 c9 c10;clear hc0 hs hE hn;go_enter func242,ntmps242;go_wp2_with(go_at_call 243;refine mB (HC.out _ bel) ?_;intro l3 q3)
 all_goals(go_returns;exact rb_)
theorem aggs_COUNTIF (a0 a1:Arg) (es:List En) (b off c:Nat) (tx:Int) (w:World) (hc0:∀ i u,a0.cells[i]? =some u->w.cell? ⟨b,off+0+i,none⟩=some u) (hc1:∀ i u,a1.cells[i]? =some u->w.cell? ⟨b,off+11+i,none⟩=some u) (hE:zAW w a0 es) (hs:zA4 a0) (hn:a0.n<=1000000000) :
  Rt 244 #[.slice (some ⟨b,off,none⟩) 2 c,.int .i64 tx] w (vG (countifG a0 es a1.val)):=by
 have HC:=zh (fun W (hb:Below w.heap.size w W)=>aggs_countif a0 es a1.val W (hE.below hb) hs hn);obtain⟨c0,c1,c2,c3,c4,c5,c6,c7,c8,c9,c10⟩:=tkB hc0;obtain⟨d1,d2,d3,d4,d5⟩:=tkV hc1;have hb:=cltK c0;simp only[Q3] at c0 c1 c2 c3 c4 c5 c6 c7 c8 c9 c10;clear hc0 hc1 hs hE hn;go_enter func244,ntmps244;go_wp2;go_region_with (first|(go_at_call 243;refine mB (HC.out _ bel) ?_;intro l3 q3))
 all_goals go_wp2;all_goals(go_returns;exact rb_)
def lookG (a:Arg) (es:List En) (p:Int×Int):V:=es.foldl (fun o e=>if plE a e=p then e.v else o) zeroG
theorem lookG_go (a:Arg) (p:Int×Int):∀ (es:List En) (o:Option Value) (v:V),o.getD (elV zeroG)=elV v ->
  ((es.map fun e=>(plE a e,elV e.v)).foldl (fun o q=>if q.1=p then some q.2 else o) o).getD (elV zeroG)=elV (es.foldl (fun o e=>if plE a e=p then e.v else o) v)
 | [],o,v,h=>h
 | e::es,o,v,h=>by
   simp only[List.map_cons,List.foldl_cons];refine lookG_go a p es _ _ ?_;by_cases hp:plE a e=p
   ·rw[if_pos hp,if_pos hp];rfl
   ·rw[if_neg hp,if_neg hp];exact h
theorem lookG_eq (a:Arg) (es:List En) (p:Int×Int):(getP (heldP a es) p).getD (.agg #[.int .i64 0,.int .i64 0,.string ⟨#[]⟩,.bool false,.int .i64 0])=elV (lookG a es p):=lookG_go a p es none zeroG rfl
def indexG (a:Arg) (es:List En) (v1 v2:V):V :=
 if (intG v1).2≠0 then errG (intG v1).2 else if (intG v2).2≠0 then errG (intG v2).2
 else if (intG v1).1<1 then errG 5 else if rowsG a<(intG v1).1 then errG 5 else if (intG v2).1<1 then errG 5 else if colsG a<(intG v2).1 then errG 5
 else lookG a es ((intG v1).1-1,(intG v2).1-1)
theorem zero_V (w:World):(zeroValue 29).run prog w=.ok (.agg #[.int .i64 0,.int .i64 0,.string ⟨#[]⟩,.bool false,.int .i64 0]) w:=by kernel_rfl
theorem aggs_INDEX (a0 a1 a2:Arg) (es:List En) (b off c:Nat) (tx:Int) (w:World) (hc0:∀ i u,a0.cells[i]? =some u->w.cell? ⟨b,off+0+i,none⟩=some u) (hc1:∀ i u,a1.cells[i]? =some u->w.cell? ⟨b,off+11+i,none⟩=some u) (hc2:∀ i u,a2.cells[i]? =some u->w.cell? ⟨b,off+22+i,none⟩=some u) (hE:zAW w a0 es) (hs:zA4 a0) (hes:∀ e∈es,SmallE e) (hn:a0.n<=1000000000) (h1:Is64 a1.val.num) (h2:Is64 a2.val.num) :
  Rt 247 #[.slice (some ⟨b,off,none⟩) 3 c,.int .i64 tx] w (vG (indexG a0 es a1.val a2.val)):=by
 have HH:=zh (fun W (hb:Below w.heap.size w W)=>aggs_held a0 es W (hE.below hb) hs hes (by omega));have hk:=zh (aggs_rows a0 hs);have hf:=zh (aggs_cols a0 hs);have hg:=zh (aggs_integer a1.val h1);have hh:=zh (aggs_integer a2.val h2);have hp: -200001<=rowsG a0/\rowsG a0<=200001:=by unfold rowsG;unfold zA4 at hs;omega
 have ho: -200001<=colsG a0/\colsG a0<=200001:=by unfold colsG;unfold zA4 at hs;omega
 obtain⟨c0,c1,c2,c3,c4,c5,c6,c7,c8,c9,c10⟩:=tkB hc0;obtain⟨d1,d2,d3,d4,d5⟩:=tkV hc1;obtain⟨f1,f2,f3,f4,f5⟩:=tkV hc2;have hb:=cltK c0;have hb1:b<w.heap.size+1:=by omega
 simp only[Q3] at c0 c1 c2 c3 c4 c5 c6 c7 c8 c9 c10;unfold indexG;obtain⟨i,hi⟩:=lt_ ((intG a1.val).1);obtain⟨ci,hc⟩:=lt_ ((intG a1.val).2);obtain⟨j,hj⟩:=lt_ ((intG a2.val).1);obtain⟨cj,hd⟩:=lt_ ((intG a2.val).2);obtain⟨ra,he⟩:=lt_ (rowsG a0);obtain⟨ca,ha⟩:=lt_ (colsG a0);rw[hi,hc] at hg;rw[hj,hd] at hh;rw[he] at hk hp;rw[ha] at hf ho;rw[hi,hc,hj,hd,he,ha];clear hc0 hc1 hc2 hs hE hn hes h1 h2 hi hc hj hd he ha;by_cases h1:ci=0
 subst h1;rw[if_neg (by simp)];by_cases h2:cj=0
 subst h2;rw[if_neg (by simp)];by_cases g1:i<1
 have g1':(decide (i<1))=true:=decide_eq_true g1;rw[if_pos g1];clear g1
 rotate_left
 have g1':(decide (i<1))=false:=decide_eq_false g1;rw[if_neg g1];by_cases g2:ra<i
 have g2':(decide (ra<i))=true:=decide_eq_true g2;rw[if_pos g2];clear g1 g2
 rotate_left
 have g2':(decide (ra<i))=false:=decide_eq_false g2;rw[if_neg g2];by_cases g3:j<1
 have g3':(decide (j<1))=true:=decide_eq_true g3;rw[if_pos g3];clear g1 g2 g3
 rotate_left
 have g3':(decide (j<1))=false:=decide_eq_false g3;rw[if_neg g3];by_cases g4:ca<j
 have g4':(decide (ca<j))=true:=decide_eq_true g4;rw[if_pos g4];clear g1 g2 g3 g4
 rotate_left
 have g4':(decide (ca<j))=false:=decide_eq_false g4;rw[if_neg g4];have s1:wrap64 (i-1)=i-1:=wr64 (by omega) (by omega);have s2:wrap64 (j-1)=j-1:=wr64 (by omega) (by omega);have hl:=zh (show Ok64 (i-1,j-1) from ⟨⟨by simp only;omega,by simp only;omega⟩,⟨by simp only;omega,by simp only;omega⟩⟩);obtain⟨R,hR⟩:=lt_ (lookG a0 es (i-1,j-1));have hm:=zh hR;rw[hR];clear g1 g2 g3 g4 hR
 rotate_left
 have h2':(cj != 0)=true:=by simpa using h2
 rw[if_pos h2];clear h2
 rotate_left
 have h1':(ci != 0)=true:=by simpa using h1
 rw[if_pos h1];clear h1;all_goals
  go_enter func247,ntmps247;go_wp2_with(first|(go_at_call_of 310 (Value.agg #[Value.int .i64 (a1.val).tag,Value.int .i64 (a1.val).num,Value.string (a1.val).str,Value.bool (a1.val).is,Value.int .i64 (a1.val).code]);refine mB (hg.out _) ?_;intro m1 r1)|(go_at_call_of 310 (Value.agg #[Value.int .i64 (a2.val).tag,Value.int .i64 (a2.val).num,Value.string (a2.val).str,Value.bool (a2.val).is,Value.int .i64 (a2.val).code]);refine mB (hh.out _) ?_;intro m2 r2)|(go_at_call 252;refine mB (hk.out _) ?_;intro l4 q4)|(go_at_call 254;refine mB (hf.out _) ?_;intro l5 q5)|(go_at_call 309;refine(HH.out _ bel).mono ?_;rintro e w5 ⟨bm,rfl,hM,hbm,hb⟩;obtain⟨l6,q6,rfl⟩:=zA0 hb;simp only[zAQ,List.append_assoc] at hM;have HM:=zh hM;clear hM hb)|(at_lookup;refine wpList_look1P _ rfl 270 _ _ rfl 273 29 place_key underlying270 (zero_V _) _ _ rfl HM.out (i-1,j-1) rfl hl.out ?_;rw[lookG_eq,hm.out];unfold elV)|(go_at_call 13;refine mB (zA3 _ _) ?_;intro l3 q3))
  all_goals(go_returns;exact rb_)
theorem bel_chain {Z wc W w3:World} (h1:Below Z.heap.size Z wc) (h3:Below W.heap.size W w3) (h2:Below wc.heap.size wc W):Below Z.heap.size Z w3 :=
 (h1.trans (h2.mono h1.size)).trans (h3.mono (QC h1.size h2.size))
end Go.Proofs.YtnccknhbplaieaaGreatDoor
