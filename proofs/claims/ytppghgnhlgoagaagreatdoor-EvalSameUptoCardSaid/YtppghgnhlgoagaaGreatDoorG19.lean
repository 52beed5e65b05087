/- Parts. -/
import Derived.Test.YtppghgnhlgoagaaGreatDoorG06
set_option linter.all false
set_option maxRecDepth 100000
set_option maxHeartbeats 4000000
namespace Go.Proofs.YtppghgnhlgoagaaGreatDoor
open Go Go.RowKit
open Go.Lib renaming hid->zh
theorem aggs_may_one (a:Arg) (es:List En) (hm:a.many=false) (hE:es.length=a.n) (w:World):Rt 136 #[a.agg] w (.bool (zBo a es)):=by
 obtain⟨m,v,t,l,b,r,A,n,c⟩:=a
 simp only at hm hE
 subst hm
 have hq:=rectEq t l b r
 obtain⟨z,hz⟩:∃ z,((decide (t=0)&&decide (l=0))&&(decide (b=0)&&decide (r=0)))=z:=⟨_,rfl⟩
 have e:zBo ⟨false,v,t,l,b,r,A,n,c⟩ es=((z&&decide (n=0))&&mayG v):=by unfold zBo;rw[if_neg (show ¬ (false=true) by decide),<-hz]
 rw[e]
 rw[hz] at hq
 clear e hz hE
 unfold Arg.agg
 dsimp only
 cases z
 ·go_enter Tryz.func136,Tryz.ntmps136
  go_wp2
  all_goals go_returns
  all_goals exact⟨rfl,bel⟩
 ·by_cases hn:n=0
  ·have hn':((n:Nat):Int)=0:=by omega
   go_enter Tryz.func136,Tryz.ntmps136
   go_wp2_with(go_at_call 43;refine mB (zA8 _ _) ?_;intro l1 n1)
   all_goals go_returns
   all_goals exact⟨by simp[hn],bel⟩
  ·have hn': ¬ ((n:Nat):Int)=0:=by omega
   go_enter Tryz.func136,Tryz.ntmps136
   go_wp2_with(go_at_call 43;refine mB (zA8 _ _) ?_;intro l1 n1)
   all_goals go_returns
   all_goals exact⟨by simp[hn],bel⟩
theorem aggs_may_many (a:Arg) (es:List En) (hm:a.many=true) (w:World) (hE:zAt w a es) (hn:a.n<=1000000000000):Rt 136 #[a.agg] w (.bool (zBo a es)):=by
 obtain⟨m,v,t,l,b,r,A,n,c⟩:=a
 obtain⟨hel,her⟩:=hE
 simp only at hm hel her hn
 subst hm
 have hq:=neqV v.tag v.num v.str v.is v.code 0 0 ⟨#[]⟩ false 0
 obtain⟨c1,h1⟩:∃ c,rectB t l b r=c:=⟨_,rfl⟩
 obtain⟨c2,h2⟩:∃ c,eqB v ⟨0,0,⟨#[]⟩,false,0⟩=c:=⟨_,rfl⟩
 obtain⟨R,h3⟩:∃ R,zAg t l b r none es=R:=⟨_,rfl⟩
 have e:zBo ⟨true,v,t,l,b,r,A,n,c⟩ es=((c1&&c2)&&R):=by unfold zBo;rw[if_pos rfl,h1,h3];rw[<- h2]
 rw[e]
 have hq2:eqB ⟨v.tag,v.num,v.str,v.is,v.code⟩ ⟨0,0,⟨#[]⟩,false,0⟩=c2:=h2
 rw[hq2] at hq
 have H1:=zh h1
 have H3:=zh h3
 have HE:=zh her
 have HL:=zh hel
 clear e h1 h2 h3 hel her hq2
 unfold Arg.agg
 dsimp only
 cases c1
 ·go_enter Tryz.func136,Tryz.ntmps136
  go_wp2_with(go_at_call 71;refine(zAp t l b r _).mono ?_;rw[H1.out];rintro e w1 ⟨rfl,hb⟩;obtain⟨l1,n1,rfl⟩:=zA0 hb;clear hb)
  all_goals go_returns
  all_goals exact⟨rfl,bel⟩
 ·cases c2
  ·go_enter Tryz.func136,Tryz.ntmps136
   go_wp2_with(go_at_call 71;refine(zAp t l b r _).mono ?_;rw[H1.out];rintro e w1 ⟨rfl,hb⟩;obtain⟨l1,n1,rfl⟩:=zA0 hb;clear hb)
   all_goals go_returns
   all_goals exact⟨rfl,bel⟩
  ·go_enter Tryz.func136,Tryz.ntmps136
   go_wp2_with(go_at_call 71;refine(zAp t l b r _).mono ?_;rw[H1.out];rintro e w1 ⟨rfl,hb⟩;obtain⟨l1,n1,rfl⟩:=zA0 hb;clear hb)
   go_loopw [36] (fun s wr=>∃ j:Nat,j<=n/\s=.int .i64 j/\Below (w.alloc (.cells #[.bool true,.int .i64 v.tag,.int .i64 v.num,.string v.str,.bool v.is,.int .i64 v.code,.int .i64 t,.int .i64 l,.int .i64 b,.int .i64 r,.slice A n c] 91)).heap.size (w.alloc (.cells #[.bool true,.int .i64 v.tag,.int .i64 v.num,.string v.str,.bool v.is,.int .i64 v.code,.int .i64 t,.int .i64 l,.int .i64 b,.int .i64 r,.slice A n c] 91)) wr/\zAg t l b r (zBq es j) (es.drop j)=R) (fun s _=>n-(intOf s).toNat)
   case atStart=>exact⟨0,Nat.zero_le _,rfl,bel,H3.out⟩
   case round =>
    obtain⟨j,hj,rfl,hB,hR⟩:=hrel
    have HBX:=zh hB
    have hB2:Below w.heap.size w wr:=(show Below w.heap.size w (w.alloc _) from bel).trans (hB.mono (by simp))
    have HB:=zh hB2
    have hsz:=hB2.size
    have hszx:=hB.size
    have hszy:w.heap.size<wr.heap.size:=by simp at hszx;omega
    have pc:∀ i u,(#[Value.bool true,.int .i64 v.tag,.int .i64 v.num,.string v.str,.bool v.is,.int .i64 v.code,.int .i64 t,.int .i64 l,.int .i64 b,.int .i64 r,.slice A n c]:Array Value).toList[i]? =some u->wr.cell? ⟨w.heap.size,i,none⟩=some u:=fun i u hu=>((AtB.new (w:=w) (t:=91) rfl).below hB) i u hu
    have p6:=pc 6 _ rfl
    have p7:=pc 7 _ rfl
    have p8:=pc 8 _ rfl
    have p9:=pc 9 _ rfl
    have p10:=pc 10 _ rfl
    clear pc hB hB2
    by_cases hlt:j<n
    ·obtain⟨bk,off,rfl,hbl,hc⟩:=HE.out.2 (by omega)
     obtain⟨x,hx⟩:∃ x,es[j]? =some x:=⟨_,List.getElem?_eq_getElem (show j<es.length by have:=HL.out;omega)⟩
     have hd:es.drop j=x::es.drop (j+1):=by
      obtain⟨hm,hv⟩:=List.getElem?_eq_some_iff.1 hx
      rw[List.drop_eq_getElem_cons hm,hv]
     have hcell:∀ (k:Nat) (y:En),es[k]? =some y->∀ i u,y.cells[i]? =some u->wr.cell? ⟨bk,off+(k*7+i),none⟩=some u:=fun k y hy i u hu=>by
      have h1:=hc _ u (zA9 En.cells 7 (fun _=>rfl) es k y hy i u hu)
      exact(HB.out.cell (p:=⟨bk,_,none⟩) (World.block_lt_of_cell? w _ h1)).trans h1
     have hbr:bk<wr.heap.size:=by omega
     have x0:=hcell j x hx 0 _ rfl
     have x1:=hcell j x hx 1 _ rfl
     have x2:=hcell j x hx 2 _ rfl
     have x3:=hcell j x hx 3 _ rfl
     have x4:=hcell j x hx 4 _ rfl
     have x5:=hcell j x hx 5 _ rfl
     have x6:=hcell j x hx 6 _ rfl
     simp only[<- Nat.add_assoc,Nat.add_zero] at x0 x1 x2 x3 x4 x5 x6
     have fx:∀ i u,x.cells[i]? =some u->(wr.alloc (.cells #[.int .i64 x.row,.int .i64 x.col,.int .i64 x.v.tag,.int .i64 x.v.num,.string x.v.str,.bool x.v.is,.int .i64 x.v.code] 57)).cell? ⟨wr.heap.size,i,none⟩=some u:=fun i u hu=>(AtB.new rfl) i u hu
     have f0:=fx 0 _ rfl
     have f1:=fx 1 _ rfl
     have f2:=fx 2 _ rfl
     have f3:=fx 3 _ rfl
     have f4:=fx 4 _ rfl
     have f5:=fx 5 _ rfl
     have f6:=fx 6 _ rfl
     clear fx
     rw[hd] at hR
     have hpv:zBq es (j+1)=some x:=by unfold zBq;rw[if_neg (by omega)];exact hx
     obtain⟨b1,hb1⟩:∃ b1,inB t l b r x.row x.col=b1:=⟨_,rfl⟩
     obtain⟨b2,hb2⟩:∃ b2,mayG x.v=b2:=⟨_,rfl⟩
     have HI:=zh hb1
     have HV:=zh hb2
     rcases Nat.eq_zero_or_pos j with h0|h0
     ·have hpj:zBq es j=none:=by unfold zBq;rw[if_pos h0]
      rw[hpj] at hR
      have hR':((b1&&b2)&&zAg t l b r (some x) (es.drop (j+1)))=R:=by rw[<- hb1,<-hb2];exact hR
      have HJ0:=zh h0
      clear h0 hpj
      clear hR hb1 hb2 hc hcell hd hx
      rw[<- hpv] at hR'
      clear hpv
      cases b1
      ·have HRR:=zh (show R=false from by rw[<- hR'];rfl)
       clear hR'
       go_upto_region 8 with fail
       (refine qmI ?_;(repeat(go_big_quiet_step (first|(go_at_call 72;have h:=zAh t l b r x.row x.col;rw[HI.out] at h;exact Calls.zA6 (h _)))));refine qmE ?_;intro lq nq)
       all_goals go_wp2
       all_goals go_returns
       all_goals exact⟨by rw[HRR.out];rfl,HB.out.trans ((show Below wr.heap.size wr _ from bel).mono hsz)⟩
      ·cases b2
       ·have HRR:=zh (show R=false from by rw[<- hR'];rfl)
        clear hR'
        go_upto_region 8 with fail
        (refine qmI ?_;(repeat(go_big_quiet_step (first|(go_at_call 72;have h:=zAh t l b r x.row x.col;rw[HI.out] at h;exact Calls.zA6 (h _))|(go_at_call 43;have h:=zA8 x.v;rw[HV.out] at h;exact Calls.zA6 (h _)))));refine qmE ?_;intro lq nq)
        all_goals go_wp2
        all_goals go_returns
        all_goals exact⟨by rw[HRR.out];rfl,HB.out.trans ((show Below wr.heap.size wr _ from bel).mono hsz)⟩
       ·have HRR:=zh (show zAg t l b r (zBq es (j+1)) (es.drop (j+1))=R from by rw[<- hR'];rfl)
        clear hR'
        go_upto_region 8 with fail
        have hj2:((j:Nat):Int)=0:=by have:=HJ0.out;omega
        (refine qmI ?_;(repeat(go_big_quiet_step (first|(go_at_call 72;have h:=zAh t l b r x.row x.col;rw[HI.out] at h;exact Calls.zA6 (h _))|(go_at_call 43;have h:=zA8 x.v;rw[HV.out] at h;exact Calls.zA6 (h _)))));refine qmE ?_;intro lq nq)
        all_goals go_wp2
        all_goals exact⟨⟨j+1,by omega,by go_num,HBX.out.trans ((show Below wr.heap.size wr _ from bel).mono hszx),HRR.out⟩,by simp[intOf];omega⟩
     ·obtain⟨i,hi⟩:∃ i,j=i+1:=⟨j-1,by omega⟩
      obtain⟨y,hy⟩:∃ y,es[i]? =some y:=⟨_,List.getElem?_eq_getElem (show i<es.length by have:=HL.out;omega)⟩
      have y0:=hcell i y hy 0 _ rfl
      have y1:=hcell i y hy 1 _ rfl
      simp only[<- Nat.add_assoc,Nat.add_zero] at y0 y1
      have hpj:zBq es j=some y:=by unfold zBq;rw[if_neg (by omega),hi];exact hy
      obtain⟨b3,hb3⟩:∃ b3,befB y.row y.col x.row x.col=b3:=⟨_,rfl⟩
      have HF:=zh hb3
      rw[hpj] at hR
      have hR':(((b1&&b2)&&b3)&&zAg t l b r (some x) (es.drop (j+1)))=R:=by rw[<- hb1,<-hb2,<-hb3];exact hR
      have hji:((j:Nat):Int)-1=(i:Int):=by omega
      have hj1:(0:Int)<(j:Int):=by omega
      clear hR hb1 hb2 hb3 hc hcell hd hx hy hpj hi
      rw[<- hpv] at hR'
      clear hpv
      cases b1
      ·have HRR:=zh (show R=false from by rw[<- hR'];rfl)
       clear hR'
       go_upto_region 8 with fail
       (refine qmI ?_;(repeat(go_big_quiet_step (first|(go_at_call 72;have h:=zAh t l b r x.row x.col;rw[HI.out] at h;exact Calls.zA6 (h _)))));refine qmE ?_;intro lq nq)
       all_goals go_wp2
       all_goals go_returns
       all_goals exact⟨by rw[HRR.out];rfl,HB.out.trans ((show Below wr.heap.size wr _ from bel).mono hsz)⟩
      ·cases b2
       ·have HRR:=zh (show R=false from by rw[<- hR'];rfl)
        clear hR'
        go_upto_region 8 with fail
        (refine qmI ?_;(repeat(go_big_quiet_step (first|(go_at_call 72;have h:=zAh t l b r x.row x.col;rw[HI.out] at h;exact Calls.zA6 (h _))|(go_at_call 43;have h:=zA8 x.v;rw[HV.out] at h;exact Calls.zA6 (h _)))));refine qmE ?_;intro lq nq)
        all_goals go_wp2
        all_goals go_returns
        all_goals exact⟨by rw[HRR.out];rfl,HB.out.trans ((show Below wr.heap.size wr _ from bel).mono hsz)⟩
       ·cases b3
        ·have HRR:=zh (show R=false from by rw[<- hR'];rfl)
         clear hR'
         go_upto_region 8 with fail
         (refine qmI ?_;(repeat(go_big_quiet_step (first|(go_at_call 72;have h:=zAh t l b r x.row x.col;rw[HI.out] at h;exact Calls.zA6 (h _))|(go_at_call 43;have h:=zA8 x.v;rw[HV.out] at h;exact Calls.zA6 (h _))|(go_at_call 73;have h:=zBb y.row y.col x.row x.col;rw[HF.out] at h;exact Calls.zA6 (h _)))));refine qmE ?_;intro lq nq)
         all_goals go_wp2
         all_goals go_returns
         all_goals exact⟨by rw[HRR.out];rfl,HB.out.trans ((show Below wr.heap.size wr _ from bel).mono hsz)⟩
        ·have HRR:=zh (show zAg t l b r (zBq es (j+1)) (es.drop (j+1))=R from by rw[<- hR'];rfl)
         clear hR'
         go_upto_region 8 with fail
         (refine qmI ?_;(repeat(go_big_quiet_step (first|(go_at_call 72;have h:=zAh t l b r x.row x.col;rw[HI.out] at h;exact Calls.zA6 (h _))|(go_at_call 43;have h:=zA8 x.v;rw[HV.out] at h;exact Calls.zA6 (h _))|(go_at_call 73;have h:=zBb y.row y.col x.row x.col;rw[HF.out] at h;exact Calls.zA6 (h _)))));refine qmE ?_;intro lq nq)
         all_goals go_wp2
         all_goals exact⟨⟨j+1,by omega,by go_num,HBX.out.trans ((show Below wr.heap.size wr _ from bel).mono hszx),HRR.out⟩,by simp[intOf];omega⟩
    ·obtain rfl:j=n:=by omega
     rw[List.drop_of_length_le (by have:=HL.out;omega)] at hR
     have hR2:R=true:=by rw[<- hR];unfold zAg;rfl
     have HRR:=zh hR2
     clear hR hR2 HE
     go_wp2
     go_returns
     exact⟨by rw[HRR.out];rfl,HB.out⟩
theorem aggs_may (a:Arg) (es:List En) (w:World) (hE:zAt w a es) (hn:a.n<=1000000000000):Rt 136 #[a.agg] w (.bool (zBo a es)):=by
 cases hm:a.many
 ·exact aggs_may_one a es hm hE.1 w
 ·exact aggs_may_many a es hm w hE hn
theorem texts_may_one (a:Arg) (es:List En) (hm:a.many=false) (hE:es.length=a.n) (w:World):Rt 133 #[a.agg] w (.bool (zBo a es)):=by
 obtain⟨m,v,t,l,b,r,A,n,c⟩:=a
 simp only at hm hE
 subst hm
 have hq:=rectEq t l b r
 obtain⟨z,hz⟩:∃ z,((decide (t=0)&&decide (l=0))&&(decide (b=0)&&decide (r=0)))=z:=⟨_,rfl⟩
 have e:zBo ⟨false,v,t,l,b,r,A,n,c⟩ es=((z&&decide (n=0))&&mayG v):=by unfold zBo;rw[if_neg (show ¬ (false=true) by decide),<-hz]
 rw[e]
 rw[hz] at hq
 clear e hz hE
 unfold Arg.agg
 dsimp only
 cases z
 ·go_enter Tryz.func133,Tryz.ntmps133
  go_wp2
  all_goals go_returns
  all_goals exact⟨rfl,bel⟩
 ·by_cases hn:n=0
  ·have hn':((n:Nat):Int)=0:=by omega
   go_enter Tryz.func133,Tryz.ntmps133
   go_wp2_with(go_at_call 43;refine mB (zA8 _ _) ?_;intro l1 n1)
   all_goals go_returns
   all_goals exact⟨by simp[hn],bel⟩
  ·have hn': ¬ ((n:Nat):Int)=0:=by omega
   go_enter Tryz.func133,Tryz.ntmps133
   go_wp2_with(go_at_call 43;refine mB (zA8 _ _) ?_;intro l1 n1)
   all_goals go_returns
   all_goals exact⟨by simp[hn],bel⟩
theorem texts_may_many (a:Arg) (es:List En) (hm:a.many=true) (w:World) (hE:zAt w a es) (hn:a.n<=1000000000000):Rt 133 #[a.agg] w (.bool (zBo a es)):=by
 obtain⟨m,v,t,l,b,r,A,n,c⟩:=a
 obtain⟨hel,her⟩:=hE
 simp only at hm hel her hn
 subst hm
 have hq:=neqV v.tag v.num v.str v.is v.code 0 0 ⟨#[]⟩ false 0
 obtain⟨c1,h1⟩:∃ c,rectB t l b r=c:=⟨_,rfl⟩
 obtain⟨c2,h2⟩:∃ c,eqB v ⟨0,0,⟨#[]⟩,false,0⟩=c:=⟨_,rfl⟩
 obtain⟨R,h3⟩:∃ R,zAg t l b r none es=R:=⟨_,rfl⟩
 have e:zBo ⟨true,v,t,l,b,r,A,n,c⟩ es=((c1&&c2)&&R):=by unfold zBo;rw[if_pos rfl,h1,h3];rw[<- h2]
 rw[e]
 have hq2:eqB ⟨v.tag,v.num,v.str,v.is,v.code⟩ ⟨0,0,⟨#[]⟩,false,0⟩=c2:=h2
 rw[hq2] at hq
 have H1:=zh h1
 have H3:=zh h3
 have HE:=zh her
 have HL:=zh hel
 clear e h1 h2 h3 hel her hq2
 unfold Arg.agg
 dsimp only
 cases c1
 ·go_enter Tryz.func133,Tryz.ntmps133
  go_wp2_with(go_at_call 71;refine(zAp t l b r _).mono ?_;rw[H1.out];rintro e w1 ⟨rfl,hb⟩;obtain⟨l1,n1,rfl⟩:=zA0 hb;clear hb)
  all_goals go_returns
  all_goals exact⟨rfl,bel⟩
 ·cases c2
  ·go_enter Tryz.func133,Tryz.ntmps133
   go_wp2_with(go_at_call 71;refine(zAp t l b r _).mono ?_;rw[H1.out];rintro e w1 ⟨rfl,hb⟩;obtain⟨l1,n1,rfl⟩:=zA0 hb;clear hb)
   all_goals go_returns
   all_goals exact⟨rfl,bel⟩
  ·go_enter Tryz.func133,Tryz.ntmps133
   go_wp2_with(go_at_call 71;refine(zAp t l b r _).mono ?_;rw[H1.out];rintro e w1 ⟨rfl,hb⟩;obtain⟨l1,n1,rfl⟩:=zA0 hb;clear hb)
   go_loopw [36] (fun s wr=>∃ j:Nat,j<=n/\s=.int .i64 j/\Below (w.alloc (.cells #[.bool true,.int .i64 v.tag,.int .i64 v.num,.string v.str,.bool v.is,.int .i64 v.code,.int .i64 t,.int .i64 l,.int .i64 b,.int .i64 r,.slice A n c] 91)).heap.size (w.alloc (.cells #[.bool true,.int .i64 v.tag,.int .i64 v.num,.string v.str,.bool v.is,.int .i64 v.code,.int .i64 t,.int .i64 l,.int .i64 b,.int .i64 r,.slice A n c] 91)) wr/\zAg t l b r (zBq es j) (es.drop j)=R) (fun s _=>n-(intOf s).toNat)
   case atStart=>exact⟨0,Nat.zero_le _,rfl,bel,H3.out⟩
   case round =>
    obtain⟨j,hj,rfl,hB,hR⟩:=hrel
    have HBX:=zh hB
    have hB2:Below w.heap.size w wr:=(show Below w.heap.size w (w.alloc _) from bel).trans (hB.mono (by simp))
    have HB:=zh hB2
    have hsz:=hB2.size
    have hszx:=hB.size
    have hszy:w.heap.size<wr.heap.size:=by simp at hszx;omega
    have pc:∀ i u,(#[Value.bool true,.int .i64 v.tag,.int .i64 v.num,.string v.str,.bool v.is,.int .i64 v.code,.int .i64 t,.int .i64 l,.int .i64 b,.int .i64 r,.slice A n c]:Array Value).toList[i]? =some u->wr.cell? ⟨w.heap.size,i,none⟩=some u:=fun i u hu=>((AtB.new (w:=w) (t:=91) rfl).below hB) i u hu
    have p6:=pc 6 _ rfl
    have p7:=pc 7 _ rfl
    have p8:=pc 8 _ rfl
    have p9:=pc 9 _ rfl
    have p10:=pc 10 _ rfl
    clear pc hB hB2
    by_cases hlt:j<n
    ·obtain⟨bk,off,rfl,hbl,hc⟩:=HE.out.2 (by omega)
     obtain⟨x,hx⟩:∃ x,es[j]? =some x:=⟨_,List.getElem?_eq_getElem (show j<es.length by have:=HL.out;omega)⟩
     have hd:es.drop j=x::es.drop (j+1):=by
      obtain⟨hm,hv⟩:=List.getElem?_eq_some_iff.1 hx
      rw[List.drop_eq_getElem_cons hm,hv]
     have hcell:∀ (k:Nat) (y:En),es[k]? =some y->∀ i u,y.cells[i]? =some u->wr.cell? ⟨bk,off+(k*7+i),none⟩=some u:=fun k y hy i u hu=>by
      have h1:=hc _ u (zA9 En.cells 7 (fun _=>rfl) es k y hy i u hu)
      exact(HB.out.cell (p:=⟨bk,_,none⟩) (World.block_lt_of_cell? w _ h1)).trans h1
     have hbr:bk<wr.heap.size:=by omega
     have x0:=hcell j x hx 0 _ rfl
     have x1:=hcell j x hx 1 _ rfl
     have x2:=hcell j x hx 2 _ rfl
     have x3:=hcell j x hx 3 _ rfl
     have x4:=hcell j x hx 4 _ rfl
     have x5:=hcell j x hx 5 _ rfl
     have x6:=hcell j x hx 6 _ rfl
     simp only[<- Nat.add_assoc,Nat.add_zero] at x0 x1 x2 x3 x4 x5 x6
     have fx:∀ i u,x.cells[i]? =some u->(wr.alloc (.cells #[.int .i64 x.row,.int .i64 x.col,.int .i64 x.v.tag,.int .i64 x.v.num,.string x.v.str,.bool x.v.is,.int .i64 x.v.code] 57)).cell? ⟨wr.heap.size,i,none⟩=some u:=fun i u hu=>(AtB.new rfl) i u hu
     have f0:=fx 0 _ rfl
     have f1:=fx 1 _ rfl
     have f2:=fx 2 _ rfl
     have f3:=fx 3 _ rfl
     have f4:=fx 4 _ rfl
     have f5:=fx 5 _ rfl
     have f6:=fx 6 _ rfl
     clear fx
     rw[hd] at hR
     have hpv:zBq es (j+1)=some x:=by unfold zBq;rw[if_neg (by omega)];exact hx
     obtain⟨b1,hb1⟩:∃ b1,inB t l b r x.row x.col=b1:=⟨_,rfl⟩
     obtain⟨b2,hb2⟩:∃ b2,mayG x.v=b2:=⟨_,rfl⟩
     have HI:=zh hb1
     have HV:=zh hb2
     rcases Nat.eq_zero_or_pos j with h0|h0
     ·have hpj:zBq es j=none:=by unfold zBq;rw[if_pos h0]
      rw[hpj] at hR
      have hR':((b1&&b2)&&zAg t l b r (some x) (es.drop (j+1)))=R:=by rw[<- hb1,<-hb2];exact hR
      have HJ0:=zh h0
      clear h0 hpj
      clear hR hb1 hb2 hc hcell hd hx
      rw[<- hpv] at hR'
      clear hpv
      cases b1
      ·have HRR:=zh (show R=false from by rw[<- hR'];rfl)
       clear hR'
       go_upto_region 8 with fail
       (refine qmI ?_;(repeat(go_big_quiet_step (first|(go_at_call 72;have h:=zAh t l b r x.row x.col;rw[HI.out] at h;exact Calls.zA6 (h _)))));refine qmE ?_;intro lq nq)
       all_goals go_wp2
       all_goals go_returns
       all_goals exact⟨by rw[HRR.out];rfl,HB.out.trans ((show Below wr.heap.size wr _ from bel).mono hsz)⟩
      ·cases b2
       ·have HRR:=zh (show R=false from by rw[<- hR'];rfl)
        clear hR'
        go_upto_region 8 with fail
        (refine qmI ?_;(repeat(go_big_quiet_step (first|(go_at_call 72;have h:=zAh t l b r x.row x.col;rw[HI.out] at h;exact Calls.zA6 (h _))|(go_at_call 43;have h:=zA8 x.v;rw[HV.out] at h;exact Calls.zA6 (h _)))));refine qmE ?_;intro lq nq)
        all_goals go_wp2
        all_goals go_returns
        all_goals exact⟨by rw[HRR.out];rfl,HB.out.trans ((show Below wr.heap.size wr _ from bel).mono hsz)⟩
       ·have HRR:=zh (show zAg t l b r (zBq es (j+1)) (es.drop (j+1))=R from by rw[<- hR'];rfl)
        clear hR'
        go_upto_region 8 with fail
        have hj2:((j:Nat):Int)=0:=by have:=HJ0.out;omega
        (refine qmI ?_;(repeat(go_big_quiet_step (first|(go_at_call 72;have h:=zAh t l b r x.row x.col;rw[HI.out] at h;exact Calls.zA6 (h _))|(go_at_call 43;have h:=zA8 x.v;rw[HV.out] at h;exact Calls.zA6 (h _)))));refine qmE ?_;intro lq nq)
        all_goals go_wp2
        all_goals exact⟨⟨j+1,by omega,by go_num,HBX.out.trans ((show Below wr.heap.size wr _ from bel).mono hszx),HRR.out⟩,by simp[intOf];omega⟩
     ·obtain⟨i,hi⟩:∃ i,j=i+1:=⟨j-1,by omega⟩
      obtain⟨y,hy⟩:∃ y,es[i]? =some y:=⟨_,List.getElem?_eq_getElem (show i<es.length by have:=HL.out;omega)⟩
      have y0:=hcell i y hy 0 _ rfl
      have y1:=hcell i y hy 1 _ rfl
      simp only[<- Nat.add_assoc,Nat.add_zero] at y0 y1
      have hpj:zBq es j=some y:=by unfold zBq;rw[if_neg (by omega),hi];exact hy
      obtain⟨b3,hb3⟩:∃ b3,befB y.row y.col x.row x.col=b3:=⟨_,rfl⟩
      have HF:=zh hb3
      rw[hpj] at hR
      have hR':(((b1&&b2)&&b3)&&zAg t l b r (some x) (es.drop (j+1)))=R:=by rw[<- hb1,<-hb2,<-hb3];exact hR
      have hji:((j:Nat):Int)-1=(i:Int):=by omega
      have hj1:(0:Int)<(j:Int):=by omega
      clear hR hb1 hb2 hb3 hc hcell hd hx hy hpj hi
      rw[<- hpv] at hR'
      clear hpv
      cases b1
      ·have HRR:=zh (show R=false from by rw[<- hR'];rfl)
       clear hR'
       go_upto_region 8 with fail
       (refine qmI ?_;(repeat(go_big_quiet_step (first|(go_at_call 72;have h:=zAh t l b r x.row x.col;rw[HI.out] at h;exact Calls.zA6 (h _)))));refine qmE ?_;intro lq nq)
       all_goals go_wp2
       all_goals go_returns
       all_goals exact⟨by rw[HRR.out];rfl,HB.out.trans ((show Below wr.heap.size wr _ from bel).mono hsz)⟩
      ·cases b2
       ·have HRR:=zh (show R=false from by rw[<- hR'];rfl)
        clear hR'
        go_upto_region 8 with fail
        (refine qmI ?_;(repeat(go_big_quiet_step (first|(go_at_call 72;have h:=zAh t l b r x.row x.col;rw[HI.out] at h;exact Calls.zA6 (h _))|(go_at_call 43;have h:=zA8 x.v;rw[HV.out] at h;exact Calls.zA6 (h _)))));refine qmE ?_;intro lq nq)
        all_goals go_wp2
        all_goals go_returns
        all_goals exact⟨by rw[HRR.out];rfl,HB.out.trans ((show Below wr.heap.size wr _ from bel).mono hsz)⟩
       ·cases b3
        ·have HRR:=zh (show R=false from by rw[<- hR'];rfl)
         clear hR'
         go_upto_region 8 with fail
         (refine qmI ?_;(repeat(go_big_quiet_step (first|(go_at_call 72;have h:=zAh t l b r x.row x.col;rw[HI.out] at h;exact Calls.zA6 (h _))|(go_at_call 43;have h:=zA8 x.v;rw[HV.out] at h;exact Calls.zA6 (h _))|(go_at_call 73;have h:=zBb y.row y.col x.row x.col;rw[HF.out] at h;exact Calls.zA6 (h _)))));refine qmE ?_;intro lq nq)
         all_goals go_wp2
         all_goals go_returns
         all_goals exact⟨by rw[HRR.out];rfl,HB.out.trans ((show Below wr.heap.size wr _ from bel).mono hsz)⟩
        ·have HRR:=zh (show zAg t l b r (zBq es (j+1)) (es.drop (j+1))=R from by rw[<- hR'];rfl)
         clear hR'
         go_upto_region 8 with fail
         (refine qmI ?_;(repeat(go_big_quiet_step (first|(go_at_call 72;have h:=zAh t l b r x.row x.col;rw[HI.out] at h;exact Calls.zA6 (h _))|(go_at_call 43;have h:=zA8 x.v;rw[HV.out] at h;exact Calls.zA6 (h _))|(go_at_call 73;have h:=zBb y.row y.col x.row x.col;rw[HF.out] at h;exact Calls.zA6 (h _)))));refine qmE ?_;intro lq nq)
         all_goals go_wp2
         all_goals exact⟨⟨j+1,by omega,by go_num,HBX.out.trans ((show Below wr.heap.size wr _ from bel).mono hszx),HRR.out⟩,by simp[intOf];omega⟩
    ·obtain rfl:j=n:=by omega
     rw[List.drop_of_length_le (by have:=HL.out;omega)] at hR
     have hR2:R=true:=by rw[<- hR];unfold zAg;rfl
     have HRR:=zh hR2
     clear hR hR2 HE
     go_wp2
     go_returns
     exact⟨by rw[HRR.out];rfl,HB.out⟩
theorem texts_may (a:Arg) (es:List En) (w:World) (hE:zAt w a es) (hn:a.n<=1000000000000):Rt 133 #[a.agg] w (.bool (zBo a es)):=by
 cases hm:a.many
 ·exact texts_may_one a es hm hE.1 w
 ·exact texts_may_many a es hm w hE hn
end Go.Proofs.YtppghgnhlgoagaaGreatDoor
