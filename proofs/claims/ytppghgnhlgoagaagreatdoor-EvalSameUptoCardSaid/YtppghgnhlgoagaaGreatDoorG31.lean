/- Parts. -/
import Derived.Test.YtppghgnhlgoagaaGreatDoorG30
set_option linter.all false
set_option maxRecDepth 100000
set_option maxHeartbeats 4000000
namespace Go.Proofs.YtppghgnhlgoagaaGreatDoor
open Go Go.RowKit
open Go.Lib renaming hid->zh
theorem aggs_BLANKS (a0:Arg) (es:List En) (b off c:Nat) (tx:Int) (w:World) (hc0:∀ i u,a0.cells[i]? =some u->w.cell? ⟨b,off+0+i,none⟩=some u) (hE:zAt w a0 es) (hs:zAQ a0) (hn:a0.n<=1000000000) :
  Rt 213 #[.slice (some ⟨b,off,none⟩) 1 c,.int .i64 tx] w (vG (countifG a0 es zeroG)):=by
 have HC:=zh (fun W (hb:Below w.heap.size w W)=>aggs_countif a0 es zeroG W (hE.below hb) hs hn)
 have c0:=hc0 0 _ rfl
 have c1:=hc0 1 _ rfl
 have c2:=hc0 2 _ rfl
 have c3:=hc0 3 _ rfl
 have c4:=hc0 4 _ rfl
 have c5:=hc0 5 _ rfl
 have c6:=hc0 6 _ rfl
 have c7:=hc0 7 _ rfl
 have c8:=hc0 8 _ rfl
 have c9:=hc0 9 _ rfl
 have c10:=hc0 10 _ rfl
 have hb:=cltK c0
 simp only[Nat.add_zero] at c0 c1 c2 c3 c4 c5 c6 c7 c8 c9 c10
 clear hc0 hs hE hn
 go_enter Tryz.func213,Tryz.ntmps213
 go_wp2_with(go_at_call 214;refine mB (HC.out _ bel) ?_;intro l3 q3)
 all_goals go_returns
 all_goals exact⟨rfl,bel⟩
theorem aggs_COUNTIF (a0 a1:Arg) (es:List En) (b off c:Nat) (tx:Int) (w:World) (hc0:∀ i u,a0.cells[i]? =some u->w.cell? ⟨b,off+0+i,none⟩=some u) (hc1:∀ i u,a1.cells[i]? =some u->w.cell? ⟨b,off+11+i,none⟩=some u) (hE:zAt w a0 es) (hs:zAQ a0) (hn:a0.n<=1000000000) :
  Rt 215 #[.slice (some ⟨b,off,none⟩) 2 c,.int .i64 tx] w (vG (countifG a0 es a1.val)):=by
 have HC:=zh (fun W (hb:Below w.heap.size w W)=>aggs_countif a0 es a1.val W (hE.below hb) hs hn)
 have c0:=hc0 0 _ rfl
 have c1:=hc0 1 _ rfl
 have c2:=hc0 2 _ rfl
 have c3:=hc0 3 _ rfl
 have c4:=hc0 4 _ rfl
 have c5:=hc0 5 _ rfl
 have c6:=hc0 6 _ rfl
 have c7:=hc0 7 _ rfl
 have c8:=hc0 8 _ rfl
 have c9:=hc0 9 _ rfl
 have c10:=hc0 10 _ rfl
 have d1:=hc1 1 _ rfl
 have d2:=hc1 2 _ rfl
 have d3:=hc1 3 _ rfl
 have d4:=hc1 4 _ rfl
 have d5:=hc1 5 _ rfl
 have hb:=cltK c0
 simp only[Nat.add_zero] at c0 c1 c2 c3 c4 c5 c6 c7 c8 c9 c10
 clear hc0 hc1 hs hE hn
 go_enter Tryz.func215,Tryz.ntmps215
 go_wp2
 go_region_with (first|(go_at_call 214;refine mB (HC.out _ bel) ?_;intro l3 q3))
 all_goals go_wp2
 all_goals go_returns
 all_goals exact⟨rfl,bel⟩
def lookG (a:Arg) (es:List En) (p:Int×Int):V:=es.foldl (fun o e=>if plE a e=p then e.v else o) zeroG
theorem lookG_go (a:Arg) (p:Int×Int):∀ (es:List En) (o:Option Value) (v:V),o.getD (elV zeroG)=elV v ->
  ((es.map fun e=>(plE a e,elV e.v)).foldl (fun o q=>if q.1=p then some q.2 else o) o).getD (elV zeroG)=elV (es.foldl (fun o e=>if plE a e=p then e.v else o) v)
 | [],o,v,h=>h
 | e::es,o,v,h=>by
   simp only[List.map_cons,List.foldl_cons]
   refine lookG_go a p es _ _ ?_
   by_cases hp:plE a e=p
   ·rw[if_pos hp,if_pos hp];rfl
   ·rw[if_neg hp,if_neg hp];exact h
theorem lookG_eq (a:Arg) (es:List En) (p:Int×Int):(getP (heldP a es) p).getD (.agg #[.int .i64 0,.int .i64 0,.string ⟨#[]⟩,.bool false,.int .i64 0])=elV (lookG a es p):=lookG_go a p es none zeroG rfl
def indexG (a:Arg) (es:List En) (v1 v2:V):V :=
 if (intG v1).2≠0 then errG (intG v1).2 else if (intG v2).2≠0 then errG (intG v2).2
 else if (intG v1).1<1 then errG 5 else if zBm a<(intG v1).1 then errG 5 else if (intG v2).1<1 then errG 5 else if zBl a<(intG v2).1 then errG 5
 else lookG a es ((intG v1).1-1,(intG v2).1-1)
theorem zero_V (w:World):(zeroValue 44).run Tryz.prog w=.ok (.agg #[.int .i64 0,.int .i64 0,.string ⟨#[]⟩,.bool false,.int .i64 0]) w:=by kernel_rfl
theorem aggs_INDEX (a0 a1 a2:Arg) (es:List En) (b off c:Nat) (tx:Int) (w:World) (hc0:∀ i u,a0.cells[i]? =some u->w.cell? ⟨b,off+0+i,none⟩=some u) (hc1:∀ i u,a1.cells[i]? =some u->w.cell? ⟨b,off+11+i,none⟩=some u) (hc2:∀ i u,a2.cells[i]? =some u->w.cell? ⟨b,off+22+i,none⟩=some u) (hE:zAt w a0 es) (hs:zAQ a0) (hes:∀ e∈es,SmallE e) (hn:a0.n<=1000000000) (h1:Is64 a1.val.num) (h2:Is64 a2.val.num) :
  Rt 218 #[.slice (some ⟨b,off,none⟩) 3 c,.int .i64 tx] w (vG (indexG a0 es a1.val a2.val)):=by
 have HH:=zh (fun W (hb:Below w.heap.size w W)=>aggs_held a0 es W (hE.below hb) hs hes (by omega))
 have HRW:=zh (aggs_rows a0 hs)
 have HCL:=zh (aggs_cols a0 hs)
 have HI1:=zh (aggs_integer a1.val h1)
 have HI2:=zh (aggs_integer a2.val h2)
 have hsr: -200001<=zBm a0/\zBm a0<=200001:=by unfold zBm;unfold zAQ at hs;omega
 have hsc: -200001<=zBl a0/\zBl a0<=200001:=by unfold zBl;unfold zAQ at hs;omega
 have c0:=hc0 0 _ rfl
 have c1:=hc0 1 _ rfl
 have c2:=hc0 2 _ rfl
 have c3:=hc0 3 _ rfl
 have c4:=hc0 4 _ rfl
 have c5:=hc0 5 _ rfl
 have c6:=hc0 6 _ rfl
 have c7:=hc0 7 _ rfl
 have c8:=hc0 8 _ rfl
 have c9:=hc0 9 _ rfl
 have c10:=hc0 10 _ rfl
 have d1:=hc1 1 _ rfl
 have d2:=hc1 2 _ rfl
 have d3:=hc1 3 _ rfl
 have d4:=hc1 4 _ rfl
 have d5:=hc1 5 _ rfl
 have f1:=hc2 1 _ rfl
 have f2:=hc2 2 _ rfl
 have f3:=hc2 3 _ rfl
 have f4:=hc2 4 _ rfl
 have f5:=hc2 5 _ rfl
 have hb:=cltK c0
 have hb1:b<w.heap.size+1:=by omega
 simp only[Nat.add_zero] at c0 c1 c2 c3 c4 c5 c6 c7 c8 c9 c10
 unfold indexG
 obtain⟨i,hi⟩:∃ i,(intG a1.val).1=i:=⟨_,rfl⟩
 obtain⟨ci,hci⟩:∃ ci,(intG a1.val).2=ci:=⟨_,rfl⟩
 obtain⟨j,hj⟩:∃ j,(intG a2.val).1=j:=⟨_,rfl⟩
 obtain⟨cj,hcj⟩:∃ cj,(intG a2.val).2=cj:=⟨_,rfl⟩
 obtain⟨ra,hra⟩:∃ ra,zBm a0=ra:=⟨_,rfl⟩
 obtain⟨ca,hca⟩:∃ ca,zBl a0=ca:=⟨_,rfl⟩
 rw[hi,hci] at HI1
 rw[hj,hcj] at HI2
 rw[hra] at HRW hsr
 rw[hca] at HCL hsc
 rw[hi,hci,hj,hcj,hra,hca]
 clear hc0 hc1 hc2 hs hE hn hes h1 h2 hi hci hj hcj hra hca
 by_cases h1:ci=0
 ·subst h1
  rw[if_neg (by simp)]
  by_cases h2:cj=0
  ·subst h2
   rw[if_neg (by simp)]
   by_cases g1:i<1
   ·have g1':(decide (i<1))=true:=decide_eq_true g1
    rw[if_pos g1]
    clear g1
    go_enter Tryz.func218,Tryz.ntmps218
    go_wp2_with(first|(go_at_call_of 275 (Value.agg #[Value.int .i64 (a1.val).tag,Value.int .i64 (a1.val).num,Value.string (a1.val).str,Value.bool (a1.val).is,Value.int .i64 (a1.val).code]);refine mB (HI1.out _) ?_;intro m1 r1)|(go_at_call_of 275 (Value.agg #[Value.int .i64 (a2.val).tag,Value.int .i64 (a2.val).num,Value.string (a2.val).str,Value.bool (a2.val).is,Value.int .i64 (a2.val).code]);refine mB (HI2.out _) ?_;intro m2 r2)|(go_at_call 21;refine mB (zA3 _ _) ?_;intro l3 q3))
    all_goals go_returns
    all_goals exact⟨rfl,bel⟩
   ·have g1':(decide (i<1))=false:=decide_eq_false g1
    rw[if_neg g1]
    by_cases g2:ra<i
    ·have g2':(decide (ra<i))=true:=decide_eq_true g2
     rw[if_pos g2]
     clear g1 g2
     go_enter Tryz.func218,Tryz.ntmps218
     go_wp2_with(first|(go_at_call_of 275 (Value.agg #[Value.int .i64 (a1.val).tag,Value.int .i64 (a1.val).num,Value.string (a1.val).str,Value.bool (a1.val).is,Value.int .i64 (a1.val).code]);refine mB (HI1.out _) ?_;intro m1 r1)|(go_at_call_of 275 (Value.agg #[Value.int .i64 (a2.val).tag,Value.int .i64 (a2.val).num,Value.string (a2.val).str,Value.bool (a2.val).is,Value.int .i64 (a2.val).code]);refine mB (HI2.out _) ?_;intro m2 r2)|(go_at_call 223;refine mB (HRW.out _) ?_;intro l4 q4)|(go_at_call 21;refine mB (zA3 _ _) ?_;intro l3 q3))
     all_goals go_returns
     all_goals exact⟨rfl,bel⟩
    ·have g2':(decide (ra<i))=false:=decide_eq_false g2
     rw[if_neg g2]
     by_cases g3:j<1
     ·have g3':(decide (j<1))=true:=decide_eq_true g3
      rw[if_pos g3]
      clear g1 g2 g3
      go_enter Tryz.func218,Tryz.ntmps218
      go_wp2_with(first|(go_at_call_of 275 (Value.agg #[Value.int .i64 (a1.val).tag,Value.int .i64 (a1.val).num,Value.string (a1.val).str,Value.bool (a1.val).is,Value.int .i64 (a1.val).code]);refine mB (HI1.out _) ?_;intro m1 r1)|(go_at_call_of 275 (Value.agg #[Value.int .i64 (a2.val).tag,Value.int .i64 (a2.val).num,Value.string (a2.val).str,Value.bool (a2.val).is,Value.int .i64 (a2.val).code]);refine mB (HI2.out _) ?_;intro m2 r2)|(go_at_call 223;refine mB (HRW.out _) ?_;intro l4 q4)|(go_at_call 21;refine mB (zA3 _ _) ?_;intro l3 q3))
      all_goals go_returns
      all_goals exact⟨rfl,bel⟩
     ·have g3':(decide (j<1))=false:=decide_eq_false g3
      rw[if_neg g3]
      by_cases g4:ca<j
      ·have g4':(decide (ca<j))=true:=decide_eq_true g4
       rw[if_pos g4]
       clear g1 g2 g3 g4
       go_enter Tryz.func218,Tryz.ntmps218
       go_wp2_with(first|(go_at_call_of 275 (Value.agg #[Value.int .i64 (a1.val).tag,Value.int .i64 (a1.val).num,Value.string (a1.val).str,Value.bool (a1.val).is,Value.int .i64 (a1.val).code]);refine mB (HI1.out _) ?_;intro m1 r1)|(go_at_call_of 275 (Value.agg #[Value.int .i64 (a2.val).tag,Value.int .i64 (a2.val).num,Value.string (a2.val).str,Value.bool (a2.val).is,Value.int .i64 (a2.val).code]);refine mB (HI2.out _) ?_;intro m2 r2)|(go_at_call 223;refine mB (HRW.out _) ?_;intro l4 q4)|(go_at_call 225;refine mB (HCL.out _) ?_;intro l5 q5)|(go_at_call 21;refine mB (zA3 _ _) ?_;intro l3 q3))
       all_goals go_returns
       all_goals exact⟨rfl,bel⟩
      ·have g4':(decide (ca<j))=false:=decide_eq_false g4
       rw[if_neg g4]
       have s1:wrap64 (i-1)=i-1:=wr64 (by omega) (by omega)
       have s2:wrap64 (j-1)=j-1:=wr64 (by omega) (by omega)
       have HOK:=zh (show Ok64 (i-1,j-1) from ⟨⟨by simp only;omega,by simp only;omega⟩,⟨by simp only;omega,by simp only;omega⟩⟩)
       obtain⟨R,hR⟩:∃ R,lookG a0 es (i-1,j-1)=R:=⟨_,rfl⟩
       have HRR:=zh hR
       rw[hR]
       clear g1 g2 g3 g4 hR
       go_enter Tryz.func218,Tryz.ntmps218
       go_wp2_with(first|(go_at_call_of 275 (Value.agg #[Value.int .i64 (a1.val).tag,Value.int .i64 (a1.val).num,Value.string (a1.val).str,Value.bool (a1.val).is,Value.int .i64 (a1.val).code]);refine mB (HI1.out _) ?_;intro m1 r1)|(go_at_call_of 275 (Value.agg #[Value.int .i64 (a2.val).tag,Value.int .i64 (a2.val).num,Value.string (a2.val).str,Value.bool (a2.val).is,Value.int .i64 (a2.val).code]);refine mB (HI2.out _) ?_;intro m2 r2)|(go_at_call 223;refine mB (HRW.out _) ?_;intro l4 q4)|(go_at_call 225;refine mB (HCL.out _) ?_;intro l5 q5)|(go_at_call 274;refine(HH.out _ bel).mono ?_;rintro e w5 ⟨bm,rfl,hM,hbm,hb⟩;obtain⟨l6,q6,rfl⟩:=zA0 hb;simp only[zAO,List.append_assoc] at hM;have HM:=zh hM;clear hM hb)|(at_lookup;refine wpList_look1P _ rfl 301 _ _ rfl 304 44 place_key Tryz.underlying301 (zero_V _) _ _ rfl HM.out (i-1,j-1) rfl HOK.out ?_;rw[lookG_eq,HRR.out];unfold elV))
       all_goals go_returns
       all_goals exact⟨rfl,bel⟩
  ·have h2':(cj != 0)=true:=by simpa using h2
   rw[if_pos h2]
   clear h2
   go_enter Tryz.func218,Tryz.ntmps218
   go_wp2_with(first|(go_at_call_of 275 (Value.agg #[Value.int .i64 (a1.val).tag,Value.int .i64 (a1.val).num,Value.string (a1.val).str,Value.bool (a1.val).is,Value.int .i64 (a1.val).code]);refine mB (HI1.out _) ?_;intro m1 r1)|(go_at_call_of 275 (Value.agg #[Value.int .i64 (a2.val).tag,Value.int .i64 (a2.val).num,Value.string (a2.val).str,Value.bool (a2.val).is,Value.int .i64 (a2.val).code]);refine mB (HI2.out _) ?_;intro m2 r2)|(go_at_call 21;refine mB (zA3 _ _) ?_;intro l3 q3))
   all_goals go_returns
   all_goals exact⟨rfl,bel⟩
 ·have h1':(ci != 0)=true:=by simpa using h1
  rw[if_pos h1]
  clear h1
  go_enter Tryz.func218,Tryz.ntmps218
  go_wp2_with(first|(go_at_call_of 275 (Value.agg #[Value.int .i64 (a1.val).tag,Value.int .i64 (a1.val).num,Value.string (a1.val).str,Value.bool (a1.val).is,Value.int .i64 (a1.val).code]);refine mB (HI1.out _) ?_;intro m1 r1)|(go_at_call 21;refine mB (zA3 _ _) ?_;intro l3 q3))
  all_goals go_returns
  all_goals exact⟨rfl,bel⟩
theorem zCA {Z wc W w3:World} (h1:Below Z.heap.size Z wc) (h3:Below W.heap.size W w3) (h2:Below wc.heap.size wc W):Below Z.heap.size Z w3 :=
 (h1.trans (h2.mono h1.size)).trans (h3.mono (Nat.le_trans h1.size h2.size))
end Go.Proofs.YtppghgnhlgoagaaGreatDoor
