/- Parts. -/
import Derived.Test.YtnccknhbplaieaaGreatDoorC39
import Derived.Test.YtnccknhbplaieaaGreatDoorC41
set_option linter.all false
set_option maxRecDepth 100000
set_option maxHeartbeats 4000000
namespace Go.Proofs.YtnccknhbplaieaaGreatDoor
open Go Go.RowKit Go.Proofs.Tryz
open Go.Lib renaming hid->zh
open _root_.List renaming getElem?_eq_getElem->Q3,getD_eq_getElem?_getD->Q5,length_append->Q7,getElem_mem->Q8,range->QB,mem_singleton->QC
open Go.IntKind renaming i64->Q4,wrap_i64->Q9
open _root_.Nat renaming zero_le->QA,le_trans->QD
theorem rows_any (a:Arg) (hs:zA4 a) (W:World):Rt 62 #[a.agg] W (.int .i64 (rowsG a)):=r10_rows a W (zAS (by unfold zA4 at hs;omega) (by unfold zA4 at hs;omega)) (zAS (by unfold zA4 at hs;omega) (by unfold zA4 at hs;omega))
theorem cols_any (a:Arg) (hs:zA4 a) (W:World):Rt 63 #[a.agg] W (.int .i64 (colsG a)):=r10_cols a W (zAS (by unfold zA4 at hs;omega) (by unfold zA4 at hs;omega)) (zAS (by unfold zA4 at hs;omega) (by unfold zA4 at hs;omega))
theorem bl0 (s k:Nat):s<s+1+1+k:=by omega
theorem bl1 (s k:Nat):s+1<s+1+1+k:=by omega
theorem area_in {a:Arg} (hs:zA4 a): -50000000000<=rowsG a*colsG a/\rowsG a*colsG a<=50000000000:=by
 have h1: -200001<=rowsG a/\rowsG a<=200001:=by unfold rowsG;unfold zA4 at hs;omega
 have h2: -200001<=colsG a/\colsG a<=200001:=by unfold colsG;unfold zA4 at hs;omega
 have h3:(rowsG a*colsG a).natAbs<=200001*200001:=by rw[Int.natAbs_mul];exact Nat.mul_le_mul (by omega) (by omega)
 omega
theorem count_one {p:En->Bool} {es:List En} {j:Nat} {x:En} (h:es[j]? =some x):(es.take (j+1)).countP p=(es.take j).countP p+(if p x then 1 else 0):=by
 rw[zAJ h,List.countP_append];simp[List.countP_cons]
theorem count_le {p:En->Bool} {es:List En} {j:Nat} :(es.take j).countP p<=j:=QD List.countP_le_length (by rw[List.length_take];omega)
theorem r10_counted (a:Arg) (es:List En) (v:V) (w:World) (hE:zAW w a es) (hs:zA4 a) (hn:a.n<=1000000000):Rt 57 #[a.agg,(vG v)] w (.int .i64 (if v.tag=0 then rowsG a*colsG a-(es.countP fun e=>e.v.tag != 0:Nat) else (es.countP fun e=>eqB e.v v:Nat))):=by
 have hz:=area_in hs;have hr:=zh (rows_any a hs);have hq:=zh (cols_any a hs);have HE:=zh hE;have hg:=hE.1;clear hs hE;obtain⟨ra,hx⟩:=lt_ (rowsG a);obtain⟨ca,hw⟩:=lt_ (colsG a);rw[hx] at hr;rw[hw] at hq;rw[hx,hw] at hz ⊢;obtain⟨z,ho⟩:=lt_ (ra*ca);rw[ho] at hz ⊢;have w1:Q4.wrap (ra*ca)=z:=(zAS (by omega) (by omega)).trans ho;have w1':wrap64 (ra*ca)=z:=(zBN (by clear w1;omega) (by clear w1;omega)).trans ho;clear hx hw ho;obtain⟨⟨many,val,top,left,bottom,right,ents,m,cc⟩,ha⟩:∃ z,z=a:=⟨_,rfl⟩
 have ht:a.n=m:=by rw[<- ha]
 have hB:a.ents=ents:=by rw[<- ha]
 have hf:a.agg=(⟨many,val,top,left,bottom,right,ents,m,cc⟩:Arg).agg:=by rw[ha]
 rw[hf] at hr hq;rw[hf];unfold Arg.agg at *;rw[ht] at hn hg;have hh:=zh (fun (W:World) (hb:Below w.heap.size w W) (j:Nat) (e:En) (he:es[j]? =some e)=>ent_at (HE.out.below hb) he);rw[hB,ht] at hh;have hy:=zh hg;have HZ:=zh hz;obtain⟨R,hR⟩:=lt_ ((if v.tag=0 then z-((es.countP fun e=>e.v.tag != 0:Nat):Int) else ((es.countP fun e=>eqB e.v v:Nat):Int)));rw[hR];have hA:=zh hR;clear hR;clear ht hB hf ha hg hz;go_enter func57,ntmps57;go_wp2
 (refine qmI ?_;(repeat(go_big_quiet_step (first|(go_at_call 62;exact Calls.zA1 (hr.out _))|(go_at_call 63;exact Calls.zA1 (hq.out _)))));refine qmE ?_;intro lq nq)
 go_wp2;clear w1 w1'
 go_loopw [7,5,6] (fun t x y wr=>∃ (j p k:Nat) (u:Int),j<=m/\t=.int .i64 (j:Int)/\x=.int .i64 (p:Int)/\y=.int .i64 u/\RowKit.Hid ((es.take j).countP (fun e=>eqB e.v v)=p)/\RowKit.Hid ((es.take j).countP (fun e=>e.v.tag != 0)=k)/\RowKit.Hid (u=z-(k:Int))/\∃ l q,wr=more ((w.alloc (.cells #[.bool many,.int .i64 val.tag,.int .i64 val.num,.string val.str,.bool val.is,.int .i64 val.code,.int .i64 top,.int .i64 left,.int .i64 bottom,.int .i64 right,.slice ents m cc] 51)).alloc (.cells #[.int .i64 v.tag,.int .i64 v.num,.string v.str,.bool v.is,.int .i64 v.code] 29)) l q) (fun t _ _ _=>m-(intOf t).toNat)
 case atStart=>exact⟨0,0,0,z,QA _,rfl,rfl,rfl,zh rfl,zh rfl,zh (by simp),zA0 bel⟩
 case round =>
  obtain⟨j,p,k,u,hj,rfl,rfl,rfl,HP,HK,HU,l0,q0,rfl⟩:=hrel;have hpj:p<=j:=by rw[<- HP.out];exact count_le
  have hkj:k<=j:=by rw[<- HK.out];exact count_le
  by_cases hlt:j<m
  ·obtain⟨e,he⟩:∃ e,es[j]? =some e:=⟨_,Q3 (show j<es.length by rw[hy.out];exact hlt)⟩
   obtain⟨b,o,e5,hb,hjn,c0,c1,c2,c3,c4,c5,c6⟩:=hh.out _ (show Below w.heap.size w (more ((w.alloc (.cells #[.bool many,.int .i64 val.tag,.int .i64 val.num,.string val.str,.bool val.is,.int .i64 val.code,.int .i64 top,.int .i64 left,.int .i64 bottom,.int .i64 right,.slice ents m cc] 51)).alloc (.cells #[.int .i64 v.tag,.int .i64 v.num,.string v.str,.bool v.is,.int .i64 v.code] 29)) l0 q0) from bel) j e he;subst e5;have hbn:b<w.heap.size+1+1+l0.length:=by have h:=hb;simp at h;omega
   have hbm:b<w.heap.size+1+1+l0.length+1:=by omega
   have hH:(j:Int)<(m:Int):=by omega
   have HX:=zh he;have hi:=zh (fun W=>r2_Same e.v v W);have wu:Q4.wrap (u-1)=u-1:=zAS (by have:=HU.out;have:=HZ.out;omega) (by have:=HU.out;have:=HZ.out;omega);have wp:Q4.wrap ((p:Int)+1)=((p+1:Nat):Int):=(zAS (by clear wu;omega) (by clear wu;omega)).trans (by clear wu;omega);have wj:Q4.wrap ((j:Int)+1)=((j+1:Nat):Int):=(zAS (by clear wu wp;omega) (by clear wu wp;omega)).trans (by clear wu wp;omega);clear he;obtain⟨bs,hu⟩:=lt_ (eqB e.v v);obtain⟨bt,hC⟩:=lt_ (e.v.tag != 0);rw[hu] at hi;have hl:=zh hu;have hm:=zh hC;have hG:(e.v.tag==0)= !bt:=by rw[<- hC];simp[bne]
   clear hu;cases bt<;>cases bs
   ·-- blank 0,same 0
    have hd:=zh (show (es.take (j+1)).countP (fun e=>eqB e.v v)=p+0 by rw[count_one HX.out,HP.out,hl.out];rfl);have hc:=zh (show (es.take (j+1)).countP (fun e=>e.v.tag != 0)=k+0 by rw[count_one HX.out,HK.out,hm.out];rfl);go_wp2_with((go_at_call 114;refine mB (hi.out _) ?_;intro l9 q9))
    go_roundw;case rel=>exact⟨j+1,p+0,k+0,_,by omega,rfl,rfl,rfl,hd,hc,zh (by have:=HU.out;omega),zA0 bel⟩
    case measure=>simp[intOf];omega
   ·-- blank 0,same 1
    have hd:=zh (show (es.take (j+1)).countP (fun e=>eqB e.v v)=p+1 by rw[count_one HX.out,HP.out,hl.out];rfl);have hc:=zh (show (es.take (j+1)).countP (fun e=>e.v.tag != 0)=k+0 by rw[count_one HX.out,HK.out,hm.out];rfl);go_wp2_with((go_at_call 114;refine mB (hi.out _) ?_;intro l9 q9))
    go_roundw;case rel=>exact⟨j+1,p+1,k+0,_,by omega,rfl,rfl,rfl,hd,hc,zh (by have:=HU.out;omega),zA0 bel⟩
    case measure=>simp[intOf];omega
   ·-- blank 1,same 0
    have hd:=zh (show (es.take (j+1)).countP (fun e=>eqB e.v v)=p+0 by rw[count_one HX.out,HP.out,hl.out];rfl);have hc:=zh (show (es.take (j+1)).countP (fun e=>e.v.tag != 0)=k+1 by rw[count_one HX.out,HK.out,hm.out];rfl);go_wp2_with((go_at_call 114;refine mB (hi.out _) ?_;intro l9 q9))
    go_roundw;case rel=>exact⟨j+1,p+0,k+1,_,by omega,rfl,rfl,rfl,hd,hc,zh (by have:=HU.out;omega),zA0 bel⟩
    case measure=>simp[intOf];omega
   ·-- blank 1,same 1
    have hd:=zh (show (es.take (j+1)).countP (fun e=>eqB e.v v)=p+1 by rw[count_one HX.out,HP.out,hl.out];rfl);have hc:=zh (show (es.take (j+1)).countP (fun e=>e.v.tag != 0)=k+1 by rw[count_one HX.out,HK.out,hm.out];rfl);go_wp2_with((go_at_call 114;refine mB (hi.out _) ?_;intro l9 q9))
    go_roundw;case rel=>exact⟨j+1,p+1,k+1,_,by omega,rfl,rfl,rfl,hd,hc,zh (by have:=HU.out;omega),zA0 bel⟩
    case measure=>simp[intOf];omega
  ·obtain rfl:j=m:=by omega
   have hH: ¬ (j:Int)<(j:Int):=by omega
   have hp:=HP.out;have hk:=HK.out;rw[List.take_of_length_le (Nat.le_of_eq hy.out)] at hp hk;have hF:=zh hp;have hD:=zh hk;clear hp hk;by_cases hv:v.tag=0
   ·have hI:(v.tag==0)=true:=by simp[hv]
    have HV:=zh hv;clear hv;go_wp2;all_goals go_ret;all_goals exact⟨by rw[<- hA.out,if_pos HV.out,hD.out,<-HU.out];rfl,bel⟩
   ·have hI:(v.tag==0)=false:=by simp[hv]
    have HV:=zh hv;clear hv;go_wp2;all_goals go_ret;all_goals exact⟨by rw[<- hA.out,if_neg HV.out,hF.out];rfl,bel⟩
def lineX (a:Arg) (es:List En) (v:V):Int×Int×Int:=match scanG a es v with
 | some i=>(i,(i:Int) / colsG a,(i:Int) % colsG a)
 | none=>(-1,0,0)
theorem r10_place (v:V) (a:Arg) (es:List En) (w:World) (hE:zAW w a es) (hs:zA4 a) (hn:a.n<=1000000000) (hord:zAm a.top a.left a.bottom a.right none es=true) (hr1:1<=rowsG a) (hc1:1<=colsG a) (hl:rowsG a=1∨colsG a=1) :
  Rt 118 #[(vG v),a.agg] w (.tuple #[.int .i64 (lineX a es v).1,.int .i64 (lineX a es v).2.1,.int .i64 (lineX a es v).2.2]):=by
 have hz:=area_in hs;have he:=zh (rows_any a hs);have hA:=zh (cols_any a hs);have hM:rowsG a<=200001:=by unfold rowsG;unfold zA4 at hs;omega
 have hL:colsG a<=200001:=by unfold colsG;unfold zA4 at hs;omega
 have hm:(((rowsG a*colsG a).toNat:Nat):Int)=rowsG a*colsG a:=Int.toNat_of_nonneg (Int.mul_nonneg (by omega) (by omega));have hc:=zh (fun (x y:Int) (hx:0<=x/\x<=200001) (hy:0<=y/\y<=200001) (W:World) (hb:Below w.heap.size w W)=>r10_has a es x y W (hE.below hb) (by omega) (zAS (by unfold zA4 at hs;omega) (by unfold zA4 at hs;omega)) (zAS (by unfold zA4 at hs;omega) (by unfold zA4 at hs;omega)));simp only[first_look none es hord] at hc;obtain⟨R,hR⟩:=lt_ (lineX a es v);rw[hR];unfold lineX scanG at hR;have hw:=fun i:Nat=> @line_row a i;have hB:=fun i:Nat=> @line_col a i;obtain⟨ra,hC⟩:=lt_ (rowsG a);obtain⟨ca,hv⟩:=lt_ (colsG a);rw[hC] at he hr1 hl hM;rw[hv] at hA hc1 hl hL;rw[hC,hv] at hz hm hR;simp only[hC,hv] at hw;simp only[hv] at hB;obtain⟨N,hN⟩:=lt_ ((ra*ca).toNat);rw[hN] at hm hR;simp only[hN] at hw;have ht:=zh (fun (j:Nat) (h:(QB N).find? (fun i:Nat=>eqB (lookG a es ((i:Int) / ca,(i:Int) % ca)) v)=some j)=>show R=((j:Int),(j:Int) / ca,(j:Int) % ca) by rw[<- hR,h]);have hH:=zh (fun (h:(QB N).find? (fun i:Nat=>eqB (lookG a es ((i:Int) / ca,(i:Int) % ca)) v)=none)=>show R=(-1,0,0) by rw[<- hR,h]);have w1:Q4.wrap (ra*ca)=(N:Int):=(zAS (by omega) (by omega)).trans hm.symm;have w1':wrap64 (ra*ca)=(N:Int):=(zBN (by clear w1;omega) (by clear w1;omega)).trans hm.symm;have hNb:N<=50000000000:=by clear w1 w1';omega
 clear hR hC hv;obtain⟨⟨many,val,top,left,bottom,right,ents,m,cc⟩,ha⟩:∃ z,z=a:=⟨_,rfl⟩
 have hK:a.n=m:=by rw[<- ha]
 have hJ:a.ents=ents:=by rw[<- ha]
 have hh:a.agg=(⟨many,val,top,left,bottom,right,ents,m,cc⟩:Arg).agg:=by rw[ha]
 rw[hh] at he hA hc;rw[hh];unfold Arg.agg at *;clear hh hE hord hn hJ hK hs;by_cases k1:ra=1
 ·have hf:=zh (fun (j:Nat) (hj:j<N)=>(hc.out 0 (j:Int) (by omega) (by subst k1;omega)));have hD:=zh (fun (j:Nat) (hj:j<N)=>hw j k1 hj);subst k1;have ho:=zh (show (N:Int)=ca by omega);clear hc hz hN hm hw hB hl ha;go_enter func118,ntmps118;go_wp2
  (refine qmI ?_;(repeat(go_big_quiet_step (first|(go_at_call 62;exact Calls.zA1 (he.out _))|(go_at_call 63;exact Calls.zA1 (hA.out _)))));refine qmE ?_;intro lq nq)
  go_wp2;clear w1 w1'
  go_loopw [8] (fun t wr=>∃ j:Nat,j<=N/\t=.int .i64 (j:Int)/\RowKit.Hid ((QB j).find? (fun i:Nat=>eqB (lookG a es ((i:Int) / ca,(i:Int) % ca)) v)=none)/\∃ l q,wr=more ((w.alloc (.cells #[.int .i64 v.tag,.int .i64 v.num,.string v.str,.bool v.is,.int .i64 v.code] 29)).alloc (.cells #[.bool many,.int .i64 val.tag,.int .i64 val.num,.string val.str,.bool val.is,.int .i64 val.code,.int .i64 top,.int .i64 left,.int .i64 bottom,.int .i64 right,.slice ents m cc] 51)) l q) (fun t _=>N-(intOf t).toNat)
  case atStart=>exact⟨0,QA _,rfl,zh rfl,zA0 bel⟩
  case round =>
   obtain⟨j,hj,rfl,hi,l0,q0,rfl⟩:=hrel;by_cases hlt:j<N
   ·have hF:(j:Int)<(N:Int):=by omega
    have hG:(j:Int)<ca:=by have:=ho.out;omega
    have wj:Q4.wrap ((j:Int)+1)=((j+1:Nat):Int):=(zAS (by omega) (by omega)).trans (by omega);have HH:=zh (hf.out j hlt);have hp:=zh (hD.out j hlt);obtain⟨u,hu⟩:=lt_ (lookG a es ((j:Int) / ca,(j:Int) % ca));have hk:=hu;rw[hp.out] at hk;rw[hk] at HH;have hg:=zh (fun W=>r2_Same u v W);obtain⟨r,hr⟩:=lt_ (eqB u v);rw[hr] at hg;have hq:=zh (show eqB (lookG a es ((j:Int) / ca,(j:Int) % ca)) v=r by rw[hu];exact hr);clear hr hu hk;cases r
    ·have hd:=zh (range_find_no (p:=fun i:Nat=>eqB (lookG a es ((i:Int) / ca,(i:Int) % ca)) v) hi.out hq.out);go_wp2_with(first|(go_at_call 62;refine mB (he.out _) ?_;intro l3 q3)|(go_at_call 115;refine mB (HH.out _ bel) ?_;intro l7 q7;have g0:=bl0 w.heap.size (l0.length+(l3.length+l7.length));have g1:=bl1 w.heap.size (l0.length+(l3.length+l7.length)))|(go_at_call 114;refine mB (hg.out _) ?_;intro l9 q9))
     go_roundw;case rel=>exact⟨j+1,by omega,rfl,hd,zA0 bel⟩
     case measure=>simp[intOf];omega
    ·have hd:=zh (ht.out j (range_find_yes (p:=fun i:Nat=>eqB (lookG a es ((i:Int) / ca,(i:Int) % ca)) v) hi.out hlt hq.out));go_wp2_with(first|(go_at_call 62;refine mB (he.out _) ?_;intro l3 q3)|(go_at_call 115;refine mB (HH.out _ bel) ?_;intro l7 q7;have g0:=bl0 w.heap.size (l0.length+(l3.length+l7.length));have g1:=bl1 w.heap.size (l0.length+(l3.length+l7.length)))|(go_at_call 114;refine mB (hg.out _) ?_;intro l9 q9))
     all_goals(go_returns;exact⟨by rw[hd.out,hp.out];rfl,bel⟩)
   ·obtain rfl:j=N:=by omega
    have hF: ¬ (j:Int)<(j:Int):=by omega
    have hG: ¬ (j:Int)<ca:=by have:=ho.out;omega
    have hd:=zh (hH.out hi.out);go_wp2;all_goals(go_returns;exact⟨by rw[hd.out];rfl,bel⟩)
 ·have k2:ca=1:=by omega
  subst k2;have hI:(N:Int)=ra:=by omega
  have ho:=zh hI;have hf:=zh (fun (j:Nat) (hj:j<N)=>(hc.out (j:Int) 0 (by omega) (by omega)));have hD:=zh (fun (j:Nat) (hj:j<N)=>hB j rfl);have k1b:(ra==1)=false:=by simpa using k1
  have k1d:decide (ra=1)=false:=decide_eq_false k1;clear hc hz hN hm hw hB hl ha hI;go_enter func118,ntmps118;go_wp2
  (refine qmI ?_;(repeat(go_big_quiet_step (first|(go_at_call 62;exact Calls.zA1 (he.out _))|(go_at_call 63;exact Calls.zA1 (hA.out _)))));refine qmE ?_;intro lq nq)
  go_wp2;clear w1 w1'
  go_loopw [8] (fun t wr=>∃ j:Nat,j<=N/\t=.int .i64 (j:Int)/\RowKit.Hid ((QB j).find? (fun i:Nat=>eqB (lookG a es ((i:Int) / 1,(i:Int) % 1)) v)=none)/\∃ l q,wr=more ((w.alloc (.cells #[.int .i64 v.tag,.int .i64 v.num,.string v.str,.bool v.is,.int .i64 v.code] 29)).alloc (.cells #[.bool many,.int .i64 val.tag,.int .i64 val.num,.string val.str,.bool val.is,.int .i64 val.code,.int .i64 top,.int .i64 left,.int .i64 bottom,.int .i64 right,.slice ents m cc] 51)) l q) (fun t _=>N-(intOf t).toNat)
  case atStart=>exact⟨0,QA _,rfl,zh rfl,zA0 bel⟩
  case round =>
   obtain⟨j,hj,rfl,hi,l0,q0,rfl⟩:=hrel;by_cases hlt:j<N
   ·have hF:(j:Int)<(N:Int):=by omega
    have hG:(j:Int)<ra:=by have:=ho.out;omega
    have wj:Q4.wrap ((j:Int)+1)=((j+1:Nat):Int):=(zAS (by omega) (by omega)).trans (by omega);have HH:=zh (hf.out j hlt);have hp:=zh (hD.out j hlt);obtain⟨u,hu⟩:=lt_ (lookG a es ((j:Int) / 1,(j:Int) % 1));have hk:=hu;rw[hp.out] at hk;rw[hk] at HH;have hg:=zh (fun W=>r2_Same u v W);obtain⟨r,hr⟩:=lt_ (eqB u v);rw[hr] at hg;have hq:=zh (show eqB (lookG a es ((j:Int) / 1,(j:Int) % 1)) v=r by rw[hu];exact hr);clear hr hu hk;cases r
    ·have hd:=zh (range_find_no (p:=fun i:Nat=>eqB (lookG a es ((i:Int) / 1,(i:Int) % 1)) v) hi.out hq.out);go_wp2_with(first|(go_at_call 62;refine mB (he.out _) ?_;intro l3 q3)|(go_at_call 115;refine mB (HH.out _ bel) ?_;intro l7 q7;have g0:=bl0 w.heap.size (l0.length+(l3.length+l7.length));have g1:=bl1 w.heap.size (l0.length+(l3.length+l7.length)))|(go_at_call 114;refine mB (hg.out _) ?_;intro l9 q9))
     go_roundw;case rel=>exact⟨j+1,by omega,rfl,hd,zA0 bel⟩
     case measure=>simp[intOf];omega
    ·have hd:=zh (ht.out j (range_find_yes (p:=fun i:Nat=>eqB (lookG a es ((i:Int) / 1,(i:Int) % 1)) v) hi.out hlt hq.out));go_wp2_with(first|(go_at_call 62;refine mB (he.out _) ?_;intro l3 q3)|(go_at_call 115;refine mB (HH.out _ bel) ?_;intro l7 q7;have g0:=bl0 w.heap.size (l0.length+(l3.length+l7.length));have g1:=bl1 w.heap.size (l0.length+(l3.length+l7.length)))|(go_at_call 114;refine mB (hg.out _) ?_;intro l9 q9))
     all_goals(go_returns;exact⟨by rw[hd.out,hp.out];rfl,bel⟩)
   ·obtain rfl:j=N:=by omega
    have hF: ¬ (j:Int)<(j:Int):=by omega
    have hG: ¬ (j:Int)<ra:=by have:=ho.out;omega
    have hd:=zh (hH.out hi.out);go_wp2;all_goals(go_returns;exact⟨by rw[hd.out];rfl,bel⟩)
theorem zBs {vs:List V} {x:Int} (h:x∈numsOf vs):∃ v∈vs,v.num=x:=by
 unfold numsOf at h;obtain⟨v,hv,rfl⟩:=List.mem_map.1 h;exact⟨v,(List.mem_filter.1 hv).1,rfl⟩
theorem I_getD {l:List Int} {j:Nat} (h:j<l.length):(I l)[j]? =some (.int .i64 (l.getD j 0)):=by
 rw[Q5];simp[I,Q3 h]
theorem fold_fault (s:ByteArray) (vs:List V) (A:Option Addr) (n c:Nat) (w:World) (hr:Reads w w.heap.size 5 A n (flat vs)) (hm:n<=20000000) (f:V) (hf:vs.find? isF=some f) :
  Rt 66 #[.string s,.slice A n c] w (vG f):=by
 have HF:=zh (fun W (hb:Below w.heap.size w W)=>zBD vs A n c W.heap.size W ((hr.below hb).lift hb.size) (by omega));rw[hf] at HF;clear hr hf;go_enter func66,ntmps66;go_wp2_with((go_at_call 64;refine mB (HF.out _ bel) ?_;intro l1 q1))
 all_goals(go_returns;exact rb_)
theorem fold_SUM (vs:List V) (A:Option Addr) (n c:Nat) (w:World) (hr:Reads w w.heap.size 5 A n (flat vs)) (hm:n<=20000000) (h63:∀ v∈vs,In63 v.num) (hf:vs.find? isF=none) :
  Rt 66 #[.string ⟨#[83,85,77]⟩,.slice A n c] w (vG (fitG (numsOf vs).sum)):=by
 have he:vs.length=n:=by
  have:=hr.1;rw[flat_length] at this;omega
 have HF:=zh (fun W (hb:Below w.heap.size w W)=>zBD vs A n c W.heap.size W ((hr.below hb).lift hb.size) (by omega));have hg:=zh (fun W (hb:Below w.heap.size w W)=>zBR vs A n c W ((hr.below hb).lift hb.size) hm);have hd:∀ x∈numsOf vs,In63 x:=fun x hx=>by
  obtain⟨v,hv,rfl⟩:=zBs hx;exact h63 v hv
 have hc:=zBl vs;rw[he] at hc;rw[hf] at HF;clear hf hr;obtain⟨l,hl⟩:=lt_ (numsOf vs);rw[hl] at hg hd hc ⊢;obtain⟨k,hk⟩:=lt_ l.length;rw[hk] at hc;have ho:k<=20000000:=by omega
 have HK:=zh hk;have hj:=zh hd;clear hl hd hk hc h63;go_enter func66,ntmps66;go_wp2_with(first|(go_at_call 64;refine mB (HF.out _ bel) ?_;intro l1 q1)|(go_at_call 117;refine(hg.out _ bel).mono ?_;rintro e w2 ⟨v2,Q,rfl,ha,hi,hh,hb⟩;obtain rfl:=zBE hi hh;rw[zAM,HK.out] at ha;obtain⟨A2,c2,rfl,hkc,hfm⟩:=zA8 ha;have hn:=zh (Reads.zAC ha);obtain⟨l2,q2,rfl⟩:=zA0 hb;clear ha hi hh hb)|(go_at_call 116;refine(r10_sum (sortG l) A2 k c2 _ hn.out ho (fun x hx=>in64 (hj.out x ((sortG_mem l x).1 hx)))).mono ?_;rw[sortG_sum];rintro e w5 ⟨rfl,hb⟩;obtain⟨l5,q5,rfl⟩:=zA0 hb;clear hb))
 all_goals(go_returns;exact rb_)
theorem fold_PROD (vs:List V) (A:Option Addr) (n c:Nat) (w:World) (hr:Reads w w.heap.size 5 A n (flat vs)) (hm:n<=20000000) (h63:∀ v∈vs,In63 v.num) (hf:vs.find? isF=none) :
  Rt 66 #[.string ⟨#[80,82,79,68]⟩,.slice A n c] w (vG (prodGo 10000 (numsOf vs))):=by
 have he:vs.length=n:=by
  have:=hr.1;rw[flat_length] at this;omega
 have HF:=zh (fun W (hb:Below w.heap.size w W)=>zBD vs A n c W.heap.size W ((hr.below hb).lift hb.size) (by omega));have hg:=zh (fun W (hb:Below w.heap.size w W)=>zBR vs A n c W ((hr.below hb).lift hb.size) hm);have hh:=zh (fun W (hb:Below w.heap.size w W)=>r10_prod vs A n c W.heap.size W ((hr.below hb).lift hb.size) hm (fun v hv=>in64 (h63 v hv)));have hd:∀ x∈numsOf vs,In63 x:=fun x hx=>by
  obtain⟨v,hv,rfl⟩:=zBs hx;exact h63 v hv
 have hc:=zBl vs;rw[he] at hc;rw[hf] at HF;clear hf hr;obtain⟨l,hl⟩:=lt_ (numsOf vs);rw[hl] at hg hd hc hh ⊢;obtain⟨k,hk⟩:=lt_ l.length;rw[hk] at hc;have hk2:k<=20000000:=by omega
 have HK:=zh hk;have HL3:=zh hd;clear hl hd hk hc h63;go_enter func66,ntmps66;go_wp2_with(first|(go_at_call 64;refine mB (HF.out _ bel) ?_;intro l1 q1)|(go_at_call 117;refine(hg.out _ bel).mono ?_;rintro e w2 ⟨v2,Q,rfl,ha,hj,hi,hb⟩;obtain rfl:=zBE hj hi;rw[zAM,HK.out] at ha;obtain⟨A2,c2,rfl,hkc,hfm⟩:=zA8 ha;obtain⟨l2,q2,rfl⟩:=zA0 hb;clear ha hj hi hb)|(go_at_call 120;refine mB (hh.out _ bel) ?_;intro l5 q5))
 all_goals(go_returns;exact rb_)
theorem fold_MIN (vs:List V) (A:Option Addr) (n c:Nat) (w:World) (hr:Reads w w.heap.size 5 A n (flat vs)) (hm:n<=20000000) (h63:∀ v∈vs,In63 v.num) (hf:vs.find? isF=none) :
  Rt 66 #[.string ⟨#[77,73,78]⟩,.slice A n c] w (vG (if (numsOf vs).length=0 then errG 6 else numG (Lib.minOf (numsOf vs)))):=by
 have ho:vs.length=n:=by
  have:=hr.1;rw[flat_length] at this;omega
 have HF:=zh (fun W (hb:Below w.heap.size w W)=>zBD vs A n c W.heap.size W ((hr.below hb).lift hb.size) (by omega));have hj:=zh (fun W (hb:Below w.heap.size w W)=>zBR vs A n c W ((hr.below hb).lift hb.size) hm);have hn:∀ x∈numsOf vs,In63 x:=fun x hx=>by
  obtain⟨v,hv,rfl⟩:=zBs hx;exact h63 v hv
 have hh:=zBl vs;rw[ho] at hh;rw[hf] at HF;clear hf hr;obtain⟨l,hl⟩:=lt_ (numsOf vs);rw[hl] at hj hn hh ⊢;obtain⟨k,hk⟩:=lt_ l.length;rw[hk] at hh;have hk2:k<=20000000:=by omega
 have HK:=zh hk;have hu:=zh hn;clear hl hn hk hh h63;by_cases hk0:k=0
 ·subst hk0;rw[if_pos HK.out];go_enter func66,ntmps66;go_wp2_with(first|(go_at_call 64;refine mB (HF.out _ bel) ?_;intro l1 q1)|(go_at_call 117;refine(hj.out _ bel).mono ?_;rintro e w2 ⟨v2,Q,rfl,ha,hd,hc,hb⟩;obtain rfl:=zBE hd hc;rw[zAM,HK.out] at ha;obtain⟨A2,c2,rfl,hw,hs⟩:=zA8 ha;obtain⟨l2,q2,rfl⟩:=zA0 hb;clear ha hd hc hb)|(go_at_call 22;refine mB (zA6 _ _) ?_;intro l5 q5))
  all_goals(go_returns;exact rb_)
 ·rw[if_neg (by rw[HK.out];exact hk0)];have he:0<k:=by omega
  have hkI: ¬ (k:Int)=0:=by omega
  have hkb:((k:Int)==0)=false:=by simp;omega
  have hp:=sortG_min (l:=l) (by rw[HK.out];exact he);have hi:=I_getD (l:=sortG l) (j:=0) (by rw[zAM,HK.out];exact he);rw[hp] at hi;have ht:Is64 (Lib.minOf l):=by
   rw[<- hp,Q5,Q3 (by rw[zAM,HK.out];exact he)];exact in64 (hu.out _ ((sortG_mem l _).1 (Q8 _)))
  have HN:=zh (zAw _ ht);obtain⟨z,hz⟩:=lt_ (Lib.minOf l);rw[hz] at hi HN ⊢;have HI:=zh hi;clear hz hi ht hp;go_enter func66,ntmps66;go_wp2_with(first|(go_at_call 64;refine mB (HF.out _ bel) ?_;intro l1 q1)|(go_at_call 117;refine(hj.out _ bel).mono ?_;rintro e w2 ⟨v2,Q,rfl,ha,hd,hc,hb⟩;obtain rfl:=zBE hd hc;rw[zAM,HK.out] at ha;obtain⟨A2,c2,rfl,hw,hs⟩:=zA8 ha;obtain⟨g,rfl,hg,hq⟩:=hs he;have c0:=hq 0 _ HI.out;clear hq;obtain⟨l2,q2,rfl⟩:=zA0 hb;clear ha hd hc hb)|(go_at_call 39;refine mB (HN.out _) ?_;intro l6 q6))
  all_goals(go_returns;exact rb_)
theorem fold_MAX (vs:List V) (A:Option Addr) (n c:Nat) (w:World) (hr:Reads w w.heap.size 5 A n (flat vs)) (hm:n<=20000000) (h63:∀ v∈vs,In63 v.num) (hf:vs.find? isF=none) :
  Rt 66 #[.string ⟨#[77,65,88]⟩,.slice A n c] w (vG (if (numsOf vs).length=0 then errG 6 else numG (Lib.maxOf (numsOf vs)))):=by
 have ho:vs.length=n:=by
  have:=hr.1;rw[flat_length] at this;omega
 have HF:=zh (fun W (hb:Below w.heap.size w W)=>zBD vs A n c W.heap.size W ((hr.below hb).lift hb.size) (by omega));have hj:=zh (fun W (hb:Below w.heap.size w W)=>zBR vs A n c W ((hr.below hb).lift hb.size) hm);have hn:∀ x∈numsOf vs,In63 x:=fun x hx=>by
  obtain⟨v,hv,rfl⟩:=zBs hx;exact h63 v hv
 have he:=zBl vs;rw[ho] at he;rw[hf] at HF;clear hf hr;obtain⟨l,hl⟩:=lt_ (numsOf vs);rw[hl] at hj hn he ⊢;obtain⟨k,hk⟩:=lt_ l.length;rw[hk] at he;have hk2:k<=20000000:=by omega
 have HK:=zh hk;have hu:=zh hn;clear hl hn hk he h63;by_cases hk0:k=0
 ·subst hk0;rw[if_pos HK.out];go_enter func66,ntmps66;go_wp2_with(first|(go_at_call 64;refine mB (HF.out _ bel) ?_;intro l1 q1)|(go_at_call 117;refine(hj.out _ bel).mono ?_;rintro e w2 ⟨v2,Q,rfl,ha,hd,hc,hb⟩;obtain rfl:=zBE hd hc;rw[zAM,HK.out] at ha;obtain⟨A2,c2,rfl,hw,hq⟩:=zA8 ha;obtain⟨l2,q2,rfl⟩:=zA0 hb;clear ha hd hc hb)|(go_at_call 22;refine mB (zA6 _ _) ?_;intro l5 q5))
  all_goals(go_returns;exact rb_)
 ·rw[if_neg (by rw[HK.out];exact hk0)];have hs:0<k:=by omega
  have hkI: ¬ (k:Int)=0:=by omega
  have hkb:((k:Int)==0)=false:=by simp;omega
  obtain⟨i,rfl⟩:∃ i,k=i+1:=⟨k-1,by omega⟩
  have hh:=sortG_max (l:=l) (by rw[HK.out];exact hs);have hi:=I_getD (l:=sortG l) (j:=i) (by rw[zAM,HK.out];omega);rw[HK.out,Nat.add_sub_cancel] at hh;rw[hh] at hi;have ht:Is64 (Lib.maxOf l):=by
   rw[<- hh,Q5,Q3 (by rw[zAM,HK.out];omega)];exact in64 (hu.out _ ((sortG_mem l _).1 (Q8 _)))
  have HN:=zh (zAw _ ht);obtain⟨z,hz⟩:=lt_ (Lib.maxOf l);rw[hz] at hi HN ⊢;have HI:=zh hi;have hii:i<i+1:=Nat.lt_succ_self i;have wi:Q4.wrap (((i+1:Nat):Int)-1)=(i:Int):=by rw[Q9];omega
  clear hz hi ht hh;go_enter func66,ntmps66;go_wp2_with(first|(go_at_call 64;refine mB (HF.out _ bel) ?_;intro l1 q1)|(go_at_call 117;refine(hj.out _ bel).mono ?_;rintro e w2 ⟨v2,Q,rfl,ha,hd,hc,hb⟩;obtain rfl:=zBE hd hc;rw[zAM,HK.out] at ha;obtain⟨A2,c2,rfl,hw,hq⟩:=zA8 ha;obtain⟨g,rfl,hg,hp⟩:=hq hs;have c0:=hp i _ HI.out;clear hp;obtain⟨l2,q2,rfl⟩:=zA0 hb;clear ha hd hc hb)|(go_at_call 39;refine mB (HN.out _) ?_;intro l6 q6))
  all_goals(go_returns;exact rb_)
theorem fold_AVG (vs:List V) (A:Option Addr) (n c:Nat) (w:World) (hr:Reads w w.heap.size 5 A n (flat vs)) (hm:n<=20000000) (h63:∀ v∈vs,In63 v.num) (hf:vs.find? isF=none) :
  Rt 66 #[.string ⟨#[65,86,71]⟩,.slice A n c] w (vG (if (numsOf vs).length=0 then errG 6 else numG (meanG (numsOf vs)))):=by
 have hi:vs.length=n:=by
  have:=hr.1;rw[flat_length] at this;omega
 have HF:=zh (fun W (hb:Below w.heap.size w W)=>zBD vs A n c W.heap.size W ((hr.below hb).lift hb.size) (by omega));have hg:=zh (fun W (hb:Below w.heap.size w W)=>zBR vs A n c W ((hr.below hb).lift hb.size) hm);have hh:∀ x∈numsOf vs,In63 x:=fun x hx=>by
  obtain⟨v,hv,rfl⟩:=zBs hx;exact h63 v hv
 have he:=zBl vs;rw[hi] at he;rw[hf] at HF;clear hf hr;obtain⟨l,hl⟩:=lt_ (numsOf vs);rw[hl] at hg hh he ⊢;obtain⟨k,hk⟩:=lt_ l.length;rw[hk] at he;have hq:k<=20000000:=by omega
 have HK:=zh hk;have hn:=zh hh;clear hl hh hk he h63;by_cases hk0:k=0
 ·subst hk0;rw[if_pos HK.out];go_enter func66,ntmps66;go_wp2_with(first|(go_at_call 64;refine mB (HF.out _ bel) ?_;intro l1 q1)|(go_at_call 117;refine(hg.out _ bel).mono ?_;rintro e w2 ⟨v2,Q,rfl,ha,hd,hc,hb⟩;obtain rfl:=zBE hd hc;rw[zAM,HK.out] at ha;obtain⟨A2,c2,rfl,hs,hp⟩:=zA8 ha;obtain⟨l2,q2,rfl⟩:=zA0 hb;clear ha hd hc hb)|(go_at_call 22;refine mB (zA6 _ _) ?_;intro l5 q5))
  all_goals(go_returns;exact rb_)
 ·rw[if_neg (by rw[HK.out];exact hk0)];have ht:0<k:=by omega
  have hkI: ¬ (k:Int)=0:=by omega
  have hkb:((k:Int)==0)=false:=by simp;omega
  have hj:=zh (fun W A' c' (h:Reads W W.heap.size 1 A' k (I (sortG l)))=>r10_mean (sortG l) A' k c' W h ht hq (fun x hx=>hn.out x ((sortG_mem l x).1 hx)));rw[show meanG (sortG l)=meanG l by unfold meanG;rw[sortG_sum,zAM]] at hj;go_enter func66,ntmps66;go_wp2_with(first|(go_at_call 64;refine mB (HF.out _ bel) ?_;intro l1 q1)|(go_at_call 117;refine(hg.out _ bel).mono ?_;rintro e w2 ⟨v2,Q,rfl,ha,hd,hc,hb⟩;obtain rfl:=zBE hd hc;rw[zAM,HK.out] at ha;obtain⟨A2,c2,rfl,hs,hp⟩:=zA8 ha;have ho:=zh (Reads.zAC ha);obtain⟨l2,q2,rfl⟩:=zA0 hb;clear ha hd hc hb)|(go_at_call 121;refine mB (hj.out _ _ _ ho.out) ?_;intro l5 q5))
  all_goals(go_returns;exact rb_)
theorem fold_MEDIAN (vs:List V) (A:Option Addr) (n c:Nat) (w:World) (hr:Reads w w.heap.size 5 A n (flat vs)) (hm:n<=20000000) (h63:∀ v∈vs,In63 v.num) (hf:vs.find? isF=none) :
  Rt 66 #[.string ⟨#[77,69,68,73,65,78]⟩,.slice A n c] w (vG (if (numsOf vs).length=0 then errG 6 else numG (medianG (numsOf vs)))):=by
 have hu:vs.length=n:=by
  have:=hr.1;rw[flat_length] at this;omega
 have HF:=zh (fun W (hb:Below w.heap.size w W)=>zBD vs A n c W.heap.size W ((hr.below hb).lift hb.size) (by omega));have he:=zh (fun W (hb:Below w.heap.size w W)=>zBR vs A n c W ((hr.below hb).lift hb.size) hm);have ht:∀ x∈numsOf vs,In63 x:=fun x hx=>by
  obtain⟨v,hv,rfl⟩:=zBs hx;exact h63 v hv
 have ho:=zBl vs;rw[hu] at ho;rw[hf] at HF;clear hf hr;obtain⟨l,hl⟩:=lt_ (numsOf vs);rw[hl] at he ht ho ⊢;obtain⟨k,hk⟩:=lt_ l.length;rw[hk] at ho;have hk2:k<=20000000:=by omega
 have HK:=zh hk;have hw:=zh ht;clear hl ht hk ho h63;by_cases hk0:k=0
 ·subst hk0;rw[if_pos HK.out];go_enter func66,ntmps66;go_wp2_with(first|(go_at_call 64;refine mB (HF.out _ bel) ?_;intro l1 q1)|(go_at_call 117;refine(he.out _ bel).mono ?_;rintro e w2 ⟨v2,Q,rfl,ha,hd,hc,hb⟩;obtain rfl:=zBE hd hc;rw[zAM,HK.out] at ha;obtain⟨A2,c2,rfl,hs,hn⟩:=zA8 ha;obtain⟨l2,q2,rfl⟩:=zA0 hb;clear ha hd hc hb)|(go_at_call 22;refine mB (zA6 _ _) ?_;intro l5 q5))
  all_goals(go_returns;exact rb_)
 ·rw[if_neg (by rw[HK.out];exact hk0)];have hB:0<k:=by omega
  have hkI: ¬ (k:Int)=0:=by omega
  have hkb:((k:Int)==0)=false:=by simp;omega
  unfold medianG;rw[HK.out];obtain⟨h,hh⟩:=lt_ (k / 2);rw[hh];have hq:(k:Int) / 2=(h:Int):=by omega
  have hq2:(k:Int).tdiv 2=(h:Int):=zAt hh;have hA:h<k:=by omega
  have u1:wrap64 (h:Int)=(h:Int):=w64_nat (by omega);have u2:Q4.wrap (h:Int)=(h:Int):=wi_nat (by omega);by_cases hodd:k % 2=1
  ·rw[if_pos hodd];have hG:(k:Int) % 2=1:=by clear u1 u2;omega
   have hH:(k:Int).tmod 2=1:=tmod_nat hodd;have hi:=I_getD (l:=sortG l) (j:=h) (by rw[zAM,HK.out];exact hA);have hC:Is64 ((sortG l).getD h 0):=by
    rw[Q5,Q3 (by rw[zAM,HK.out];exact hA)];exact in64 (hw.out _ ((sortG_mem l _).1 (Q8 _)))
   have HN:=zh (zAw _ hC);obtain⟨z,hz⟩:=lt_ ((sortG l).getD h 0);rw[hz] at hi HN ⊢;have HI:=zh hi;clear hz hi hC hodd hh;go_enter func66,ntmps66;go_wp2_with(first|(go_at_call 64;refine mB (HF.out _ bel) ?_;intro l1 q1)|(go_at_call 117;refine(he.out _ bel).mono ?_;rintro e w2 ⟨v2,Q,rfl,ha,hd,hc,hb⟩;obtain rfl:=zBE hd hc;rw[zAM,HK.out] at ha;obtain⟨A2,c2,rfl,hs,hn⟩:=zA8 ha;obtain⟨g,rfl,hg,hj⟩:=hn hB;have c0:=hj h _ HI.out;clear hj;obtain⟨l2,q2,rfl⟩:=zA0 hb;clear ha hd hc hb)|(go_at_call 39;refine mB (HN.out _) ?_;intro l6 q6))
   all_goals(go_returns;exact rb_)
  ·rw[if_neg hodd];have hG:(k:Int) % 2=0:=by clear u1 u2;omega
   have hE:k % 2=0:=by clear u1 u2;omega
   have hH:(k:Int).tmod 2=0:=tmod_nat hE;obtain⟨i,rfl⟩:∃ i,h=i+1:=⟨h-1,by omega⟩
   rw[show i+1-1=i by omega];have hy:=zh (fun W A' (h:Reads W W.heap.size 1 A' 2 (I (((sortG l).drop i).take 2))) c'=>r10_mean (((sortG l).drop i).take 2) A' 2 c' W h (by decide) (by decide) (fun x hx=>hw.out x ((sortG_mem l x).1 (List.mem_of_mem_drop (List.mem_of_mem_take hx)))));obtain⟨r,hr⟩:=lt_ (meanG (((sortG l).drop i).take 2));rw[hr] at hy ⊢;have wi:Q4.wrap (((i+1:Nat):Int)-1)=(i:Int):=by clear u1 u2;rw[Q9];omega
   have wi2:Q4.wrap (((i+1:Nat):Int)+1)=((i+2:Nat):Int):=by clear u1 u2 wi;rw[Q9];omega
   have hF:i+2<=k:=by clear u1 u2 wi wi2;omega
   have hi0:i<=i+2:=by clear u1 u2 wi wi2;omega
   clear hr hodd hh;go_enter func66,ntmps66;go_wp2_with(first|(go_at_call 64;refine mB (HF.out _ bel) ?_;intro l1 q1)|(go_at_call 117;refine(he.out _ bel).mono ?_;rintro e w2 ⟨v2,Q,rfl,ha,hd,hc,hb⟩;obtain rfl:=zBE hd hc;rw[zAM,HK.out] at ha;obtain⟨A2,c2,rfl,hs,hn⟩:=zA8 ha;have hD:i+2<=c2:=QD hF hs;obtain⟨g,rfl,hg,hj⟩:=hn hB;clear hj;have HO:=zh ha;obtain⟨l2,q2,rfl⟩:=zA0 hb;clear ha hd hc hb))
   rw[show i+2-i=2 by omega];obtain⟨b',off',e',hp⟩:=Reads.cut (Reads.zAC HO.out) (i:=i) (m:=2) (by decide) (by omega);cases e';rw[Nat.zero_add] at hp;refine Calls.mono (hy.out _ _ hp _) ?_;rintro e w3 ⟨rfl,hb⟩;obtain⟨l3,q3,rfl⟩:=zA0 hb;clear hb hp;go_wp2;all_goals(go_returns;exact rb_)
theorem reads_newR {W W0:World} {cs:Array Value} {t:TypeId} {b size n:Nat} {xs:List Value} (hW:W=W0.alloc (.cells cs t)) (hb:b=W0.heap.size) (hx:cs.toList=xs) (hl:xs.length=n*size):Reads W W.heap.size size (some ⟨b,0,none⟩) n xs:=by
 subst hW;subst hb;refine⟨hl,fun _=>⟨W0.heap.size,0,rfl,(show W0.heap.size<(W0.heap.push _).size by rw[Array.size_push];omega),fun j u hu=> ?_⟩⟩;rw[Nat.zero_add];exact AtB.new rfl j u (by rw[hx];exact hu)
theorem own_sl {w:World} {base e size n:Nat} {v:Value} {xs:List Value} (h:w.ownsRow base e size v n xs):∃ A c,v=.slice A n c:=by
 rcases h.2 with ⟨h1,h2⟩|⟨g,cap,cur,h1,_⟩
 ·exact⟨none,0,by rw[h1,h2]⟩
 ·exact⟨_,cap,h1⟩
theorem large_eq (p:Arg×List En) (v:V):largeG p v=if (intG v).2≠0 then errG (intG v).2 else match (zA2 [p]).find? isF with
  | some f=>f
  | none=>if (intG v).1<1 then errG 5 else if ((numsOf (zA2 [p])).length:Int)<(intG v).1 then errG 5 else numG ((sortG (numsOf (zA2 [p]))).getD ((numsOf (zA2 [p])).length-(intG v).1.toNat) 0):=by
 unfold largeG;split
 ·rfl
 ·exact among_or (zA2 [p]) (fun l=>if (intG v).1<1 then errG 5 else if (l.length:Int)<(intG v).1 then errG 5 else numG ((sortG l).getD (l.length-(intG v).1.toNat) 0))
theorem r10_large (a:Arg) (es:List En) (v:V) (w:World) (hE:zAW w a es) (hn:a.n<=10000000) (h63:∀ x∈zA2 [(a,es)],In63 x.num) (h1:Is64 v.num) :
  Rt 61 #[a.agg,(vG v)] w (vG (largeG (a,es) v)):=by
 have hT:(zA2 [(a,es)]).length<=20000000:=by
  have:=hE.1;simp only[zA2,List.flatMap_cons,List.flatMap_nil,List.append_nil,zBC,Q7,List.length_map];split<;>simp<;>omega
 have ho:=zh (fun (W:World) (A:Option Addr) (hr:Reads W W.heap.size 11 A 1 (zAY [a])) (hb:Below w.heap.size w W)=>r10_items [(a,es)] A 1 1 W hr (fun p hp=>by rw[QC] at hp;subst hp;exact hE.below hb) (by omega) (by decide) (fun p hp=>by rw[QC] at hp;subst hp;exact QD hn (by decide)));have hj:=zh (r10_integer v h1);rw[large_eq];obtain⟨us,hJ⟩:=lt_ (zA2 [(a,es)]);rw[hJ] at ho h63 hT ⊢;obtain⟨x,hx⟩:=lt_ ((intG v).1);obtain⟨cx,hD⟩:=lt_ ((intG v).2);rw[hx,hD] at hj ⊢;have hs:∀ y∈numsOf us,In63 y:=fun y hy=>by
  obtain⟨v,hv,rfl⟩:=zBs hy;exact h63 v hv
 have ht:=zBl us;obtain⟨m,hm⟩:=lt_ us.length;rw[hm] at hT ht;have hB:=zh hm;obtain⟨F,hF⟩:=lt_ (us.find? isF);rw[hF];have hw:=zh hF;have hI:m<=20000000:=hT;obtain⟨l,hl⟩:=lt_ (numsOf us);rw[hl] at hs ht ⊢;have hA:=zh hl;obtain⟨k,hk⟩:=lt_ l.length;rw[hk] at ht ⊢;have HK:=zh hk;have hL:=zh hs;have hk2:k<=20000000:=by omega
 clear hE h63 h1 hJ hx hD hm hF hl hs hk hn hT;unfold Arg.agg;by_cases hc1:cx=0
 subst hc1;rw[if_neg (by simp)];rcases F with _|f;dsimp only[vG];by_cases k1:x<1
 rw[if_pos k1]
 rotate_left
 rw[if_neg k1];have k1B:decide (x<1)=false:=decide_eq_false k1;by_cases k3:(k:Int)<x
 rw[if_pos k3]
 rotate_left
 ·rw[if_neg k3];have k3B:decide ((k:Int)<x)=false:=decide_eq_false k3;obtain⟨i,hi⟩:=lt_ (k-x.toNat);have hH:i<k:=by omega
  have wi:Q4.wrap ((k:Int)-x)=(i:Int):=(zAS (by omega) (by omega)).trans (by omega);have hR:0<k:=by clear wi;omega
  rw[hi];have hc:=I_getD (l:=sortG l) (j:=i) (by rw[zAM,HK.out];exact hH);have hK:Is64 ((sortG l).getD i 0):=by
   rw[Q5,Q3 (by rw[zAM,HK.out];exact hH)];exact in64 (hL.out _ ((sortG_mem l _).1 (Q8 _)))
  have HN:=zh (zAw _ hK);obtain⟨z,hz⟩:=lt_ ((sortG l).getD i 0);rw[hz] at hc HN ⊢;have HI:=zh hc;clear hz hc hK hi;go_enter func61,ntmps61
  go_wp2_with(first|(go_at_call 119;refine mB (hj.out _) ?_;intro l3 q3)|(go_at_call 55;refine(ho.out _ _ ?_ bel).mono ?_;(refine reads_newR rfl (by simp) ?_ ?_<;>rfl);rintro e w2 ⟨v2,rfl,ha,hb⟩;obtain⟨A2,c2,rfl⟩:=own_sl ha;rw[hB.out] at ha ⊢;have he:=Reads.zAC ha;obtain⟨l2,q2,hd⟩:=zA0 hb;have r0:w2.cell? ⟨w.heap.size+1+1,0,none⟩=some (.int .i64 0):=(by rw[hd];go_simp);have r1:w2.cell? ⟨w.heap.size+1+1,1,none⟩=some (.int .i64 0):=(by rw[hd];go_simp);have r2:w2.cell? ⟨w.heap.size+1+1,2,none⟩=some (.string ⟨#[]⟩):=(by rw[hd];go_simp);have r3:w2.cell? ⟨w.heap.size+1+1,3,none⟩=some (.bool false):=(by rw[hd];go_simp);have r4:w2.cell? ⟨w.heap.size+1+1,4,none⟩=some (.int .i64 0):=(by rw[hd];go_simp);have rf0:w2.frozen? ⟨w.heap.size+1+1,0,none⟩=false:=(by rw[hd];go_simp);have rf1:w2.frozen? ⟨w.heap.size+1+1,1,none⟩=false:=(by rw[hd];go_simp);have rf2:w2.frozen? ⟨w.heap.size+1+1,2,none⟩=false:=(by rw[hd];go_simp);have rf3:w2.frozen? ⟨w.heap.size+1+1,3,none⟩=false:=(by rw[hd];go_simp);have rf4:w2.frozen? ⟨w.heap.size+1+1,4,none⟩=false:=(by rw[hd];go_simp);have hM:Below w.heap.size w w2:=(by rw[hd];exact bel);have hu:w.heap.size+1+1<w2.heap.size:=(by rw[hd];first|(simp;done)|(simp;omega));have HF:=zh (fun W (hb:Below w2.heap.size w2 W)=>zBD us A2 m c2 W.heap.size W ((he.below hb).lift hb.size) (by omega));rw[hw.out] at HF;have hq:=zh (fun W (hb:Below w2.heap.size w2 W)=>zBR us A2 m c2 W ((he.below hb).lift hb.size) hI);clear ha he hb hd)|(go_at_call 64;refine mB (HF.out _ bel) ?_;intro l1 q1;have g1:w.heap.size+1+1<w2.heap.size+l1.length:=(by omega);have g2:w.heap.size+1+1<w2.heap.size+l1.length+1:=(by omega))|(go_at_call 117;refine(hq.out _ bel).mono ?_;rintro e w4 ⟨v4,Q,rfl,ha,hh,hf,hb⟩;obtain rfl:=zBE hh hf;rw[hA.out,zAM,HK.out] at ha;obtain⟨A4,c4,rfl,hQ,hG⟩:=zA8 ha;obtain⟨g,rfl,hg,hC⟩:=hG hR;have c0:=hC i _ HI.out;clear hC;obtain⟨l4,q4,rfl⟩:=zA0 hb;clear ha hh hf hb)|(go_at_call 39;refine mB (HN.out _) ?_;intro l6 q6))
  exact bodyPost_ret (by simp[results,results61,go_sem,zAG,r0,r1,r2,r3,r4,hu,g1,g2];try rfl) rfl ⟨rfl,bel⟩
 rotate_left
 ·rw[if_pos hc1];have hN:(cx==0)=false:=by simpa using hc1
  have hO:decide (cx=0)=false:=decide_eq_false hc1;have hP:(cx != 0)=true:=by simpa using hc1
  go_enter func61,ntmps61;go_wp2_with(first|(go_at_call 119;refine mB (hj.out _) ?_;intro l3 q3)|(go_at_call 22;refine mB (zA6 _ _) ?_;intro l5 q5))
  all_goals(go_returns;exact rb_)
 all_goals
  go_enter func61,ntmps61
  go_wp2_with(first|(go_at_call 119;refine mB (hj.out _) ?_;intro l3 q3)|(go_at_call 55;refine(ho.out _ _ ?_ bel).mono ?_;(refine reads_newR rfl (by simp) ?_ ?_<;>rfl);rintro e w2 ⟨v2,rfl,ha,hb⟩;obtain⟨A2,c2,rfl⟩:=own_sl ha;rw[hB.out] at ha ⊢;have he:=Reads.zAC ha;obtain⟨l2,q2,hd⟩:=zA0 hb;have r0:w2.cell? ⟨w.heap.size+1+1,0,none⟩=some (.int .i64 0):=(by rw[hd];go_simp);have r1:w2.cell? ⟨w.heap.size+1+1,1,none⟩=some (.int .i64 0):=(by rw[hd];go_simp);have r2:w2.cell? ⟨w.heap.size+1+1,2,none⟩=some (.string ⟨#[]⟩):=(by rw[hd];go_simp);have r3:w2.cell? ⟨w.heap.size+1+1,3,none⟩=some (.bool false):=(by rw[hd];go_simp);have r4:w2.cell? ⟨w.heap.size+1+1,4,none⟩=some (.int .i64 0):=(by rw[hd];go_simp);have rf0:w2.frozen? ⟨w.heap.size+1+1,0,none⟩=false:=(by rw[hd];go_simp);have rf1:w2.frozen? ⟨w.heap.size+1+1,1,none⟩=false:=(by rw[hd];go_simp);have rf2:w2.frozen? ⟨w.heap.size+1+1,2,none⟩=false:=(by rw[hd];go_simp);have rf3:w2.frozen? ⟨w.heap.size+1+1,3,none⟩=false:=(by rw[hd];go_simp);have rf4:w2.frozen? ⟨w.heap.size+1+1,4,none⟩=false:=(by rw[hd];go_simp);have hM:Below w.heap.size w w2:=(by rw[hd];exact bel);have hu:w.heap.size+1+1<w2.heap.size:=(by rw[hd];first|(simp;done)|(simp;omega));have HF:=zh (fun W (hb:Below w2.heap.size w2 W)=>zBD us A2 m c2 W.heap.size W ((he.below hb).lift hb.size) (by omega));rw[hw.out] at HF;have hq:=zh (fun W (hb:Below w2.heap.size w2 W)=>zBR us A2 m c2 W ((he.below hb).lift hb.size) hI);clear ha he hb hd)|(go_at_call 64;refine mB (HF.out _ bel) ?_;intro l1 q1;have g1:w.heap.size+1+1<w2.heap.size+l1.length:=(by omega);have g2:w.heap.size+1+1<w2.heap.size+l1.length+1:=(by omega))|(go_at_call 117;refine(hq.out _ bel).mono ?_;rintro e w4 ⟨v4,Q,rfl,ha,hh,hf,hb⟩;obtain rfl:=zBE hh hf;rw[hA.out,zAM,HK.out] at ha;obtain⟨A4,c4,rfl,hQ,hG⟩:=zA8 ha;obtain⟨l4,q4,rfl⟩:=zA0 hb;clear ha hh hf hb)|(go_at_call 22;refine mB (zA6 _ _) ?_;intro l5 q5))
  exact bodyPost_ret (by simp[results,results61,go_sem,zAG,r0,r1,r2,r3,r4,hu,g1,g2];try rfl) rfl ⟨rfl,bel⟩
theorem joinD_drop {sep:List UInt8} {ft:Bool} {vs:List V} {j:Nat} {v:V} (h:vs[j]? =some v):joinD sep ft (vs.drop j)=if v.tag=0 then joinD sep ft (vs.drop (j+1)) else (if ft then [] else sep)++(zAZ v).1.data.toList++joinD sep false (vs.drop (j+1)):=by
 have e:vs.drop j=v::vs.drop (j+1):=by
  obtain⟨hj,rfl⟩:=List.getElem?_eq_some_iff.1 h;exact List.drop_eq_getElem_cons hj
 rw[e,joinD]
def joinX (tx:Nat) (D:List UInt8):V:=if tx<D.length then errG 7 else txtG (bs D)
theorem r10_join (sep:ByteArray) (hs:sep.size<=1048576) (vs:List V) (A:Option Addr) (n c B text:Nat) (w:World) (hr:Reads w B 5 A n (flat vs)) (hm:n<=20000000) (ht:text<=1024) (h64:∀ v∈vs,Is64 v.num/\v.str.size<=1048576) :
  Rt 65 #[.string sep,.slice A n c,.int .i64 (text:Int)] w (vG (joinX text (joinD sep.data.toList true vs))):=by
 have hh:vs.length=n:=by
  have:=hr.1;rw[flat_length] at this;omega
 obtain⟨D,hD⟩:=lt_ (joinD sep.data.toList true vs);rw[hD];obtain⟨R,hR⟩:=lt_ (joinX text D);rw[hR];have HS:=zh (show []++joinD sep.data.toList true (vs.drop 0)=D from hD);have hw:=zh hR;have HR:=zh hr;have hg:=zh hh;have hC:=zh h64;clear hr hR hh h64 hD;go_enter func65,ntmps65;go_wp2
 go_loopw [9,7,8] (fun t x f wr=>∃ (j:Nat) (acc:List UInt8) (ft:Bool),j<=n/\t=.int .i64 (j:Int)/\x=.string (bs acc)/\f=.bool ft/\acc.length<=text+3145728/\RowKit.Hid (acc++joinD sep.data.toList ft (vs.drop j)=D)/\Below (w.alloc zeroV).heap.size (w.alloc zeroV) wr) (fun t _ _ _=>n-(intOf t).toNat)
 case atStart=>exact⟨0,[],true,QA _,rfl,rfl,rfl,by simp,HS,Below.refl _ _⟩
 case round =>
  obtain⟨j,acc,ft,hj,rfl,rfl,rfl,hz,hf,hB⟩:=hrel;obtain⟨l0,q0,rfl⟩:=zA0 hB;clear hB;unfold zeroV at *;have hi:(bs acc).size=acc.length:=zAu acc;have hn:=zh hz;obtain⟨m,hd⟩:=lt_ acc.length;rw[hd] at hi hz;by_cases hgo:j<n/\m<=text
  obtain⟨h1,h2⟩:=hgo;have hp:(j:Int)<(n:Int):=by omega
  have h2I:(m:Int)<=(text:Int):=by omega
  obtain⟨val,ha⟩:∃ a,vs[j]? =some a:=⟨_,Q3 (show j<vs.length by rw[hg.out];exact h1)⟩
  have h6:=hC.out val (List.mem_of_getElem? ha);obtain⟨b,o,rfl,hb,hjn,c0,c1,c2,c3,c4⟩:=val_at HR.out ha;have wi:Q4.wrap ((j:Int)+1)=((j+1:Nat):Int):=by rw[Q9];omega
  have hc:=joinD_drop (sep:=sep.data.toList) (ft:=ft) ha;by_cases hv:val.tag=0
  ·have hG:(val.tag==0)=true:=by simp[hv]
   have hk:=zh (show acc++joinD sep.data.toList ft (vs.drop (j+1))=D by rw[<- hf.out,hc,if_pos hv]);clear hv ha hf hc h6 hd;go_wp2;go_roundw;case rel=>exact⟨j+1,acc,ft,by omega,by go_num,rfl,rfl,hn.out,hk,bel⟩
   case measure=>simp[intOf];omega
  have hG:(val.tag==0)=false:=by simp[hv]
  rw[if_neg hv] at hc;have ho:=zh (r2_AsText val h6.1);have hF:=asTxt_size val h6.1 h6.2;obtain⟨u,hu⟩:=lt_ ((zAZ val).1);rw[hu] at ho hF hc;obtain⟨cu,hA⟩:=lt_ ((zAZ val).2);rw[hA] at ho;have hE:=zh (show sep.data.toList.length=sep.size from zAe sep);have hx:=zh (show u.data.toList.length=u.size from zAe u);cases ft;have hk:=zh (show (acc++sep.data.toList++u.data.toList)++joinD sep.data.toList false (vs.drop (j+1))=D by
   rw[<- hf.out,hc];simp)
  have HQ:=zh (show bs (acc++sep.data.toList++u.data.toList)=(bs acc++sep)++u by rw[<- bs_add,<-bs_add,zBa,zBa]);have hq:=zh (show (acc++sep.data.toList++u.data.toList).length<=text+3145728 by rw[Q7,Q7,hd,hE.out,hx.out];omega);obtain⟨z,he⟩:=lt_ (bs acc);rw[he] at hi HQ ⊢;have hzs:(z++sep).size=m+sep.size:=by rw[ByteArray.size_append,hi]
  rotate_left
  have hk:=zh (show (acc++u.data.toList)++joinD sep.data.toList false (vs.drop (j+1))=D by
   rw[<- hf.out,hc];simp)
  have HQ:=zh (show bs (acc++u.data.toList)=bs acc++u by rw[<- bs_add,zBa]);have hq:=zh (show (acc++u.data.toList).length<=text+3145728 by rw[Q7,hd,hx.out];omega);obtain⟨z,he⟩:=lt_ (bs acc);rw[he] at hi HQ ⊢
  rotate_left
  ·by_cases h3:text<m
   have hy:(text:Int)<(m:Int):=by omega
   have h3J: ¬ (m:Int)<=(text:Int):=by omega
   have hl:=zh (show R=errG 7 by
    rw[<- hw.out];unfold joinX;rw[if_pos];rw[<- hf.out,Q7];omega)
   clear hgo hf hd;by_cases h1:j<n
   have hp:(j:Int)<(n:Int):=by omega
   rotate_left
   have hp: ¬ (j:Int)<(n:Int):=by omega
   rotate_left
   ·have h1:j=n:=by omega
    subst h1;have hp: ¬ (j:Int)<(j:Int):=by omega
    have hy: ¬ (text:Int)<(m:Int):=by omega
    have h3d:decide ((text:Int)<(m:Int))=false:=decide_eq_false hy;have hl:=zh (show R=txtG (bs acc) by
     rw[<- hw.out];have e:=hf.out;rw[List.drop_of_length_le (Nat.le_of_eq hg.out)] at e;rw[show joinD sep.data.toList ft []=[] by cases ft<;>rfl,List.append_nil] at e;unfold joinX;rw[<- e,if_neg (by omega)])
    have HT:=zh (r2_Txt (bs acc));obtain⟨z,he⟩:=lt_ (bs acc);rw[he] at hi hl HT ⊢;clear hgo hf hd he;go_wp2_with((go_at_call 106;refine mB (HT.out _) ?_;intro l6 q6))
    all_goals(go_returns;exact⟨by rw[hl.out],bel⟩)
   all_goals
    go_wp2_with((go_at_call 22;refine mB (zA6 _ _) ?_;intro l5 q5))
    all_goals(go_returns;exact⟨by rw[hl.out],bel⟩)
  all_goals
   clear hv ha hf hc h6 hd hu hA he;go_wp2_with((go_at_call 44;refine mB (ho.out _) ?_;intro l3 q3))
   go_roundw;case rel=>exact⟨j+1,_,false,by omega,by go_num,by rw[HQ.out],rfl,hq.out,hk,bel⟩
   case measure=>simp[intOf];omega
end Go.Proofs.YtnccknhbplaieaaGreatDoor
