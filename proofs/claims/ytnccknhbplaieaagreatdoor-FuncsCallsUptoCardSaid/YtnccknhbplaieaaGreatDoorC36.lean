/- Parts. -/
import Derived.Test.YtnccknhbplaieaaGreatDoorC10
import Derived.Test.YtnccknhbplaieaaGreatDoorC13
set_option linter.all false
set_option maxRecDepth 100000
set_option maxHeartbeats 4000000
namespace Go.Proofs.YtnccknhbplaieaaGreatDoor
open Go Go.RowKit Go.Proofs.Tryz
open Go.Lib renaming hid->zh
open _root_.List renaming getElem?_eq_getElem->Q3,range->Q5,getElem?_map->Q9,not_mem_nil->QA
open _root_.Nat renaming add_assoc->Q4,add_zero->Q8
open Go.World renaming block_lt_of_cell?->Q7
theorem ref03_within (x l m:Int) (w:World):Rt 170 #[.int .i64 x,.int .i64 l,.int .i64 m] w (.bool (decide (l<=x)&&decide (x<=m))):=by
 go_enter func170,ntmps170;go_wp2;all_goals go_ret;all_goals refine⟨congrArg (fun b=>Ending.returned (Value.bool b)) ?_,bel⟩;all_goals simp_all;all_goals omega
theorem ref03_May (r c:Int) (w:World):Rt 169 #[.agg #[.int .i64 r,.int .i64 c]] w (.bool (cellB r c)):=by
 go_enter func169,ntmps169;go_wp2_with(go_at_call 170;refine mB (ref03_within _ _ _ _) ?_;intro l1 n1)
 all_goals go_returns;all_goals refine⟨congrArg (fun b=>Ending.returned (Value.bool b)) (?_:_=cellB _ _),bel⟩;all_goals simp_all[cellB];all_goals omega
theorem ref03_MayRect (t l b r:Int) (w:World):Rt 123 #[.agg #[.int .i64 t,.int .i64 l,.int .i64 b,.int .i64 r]] w (.bool (rectB t l b r)):=by
 obtain⟨c1,h1⟩:=lt_ (cellB t l);obtain⟨c2,h2⟩:=lt_ (cellB b r);have H1:=zh h1;have H2:=zh h2;have e:rectB t l b r=((c1&&c2)&&(decide (t<=b)&&decide (l<=r))):=by unfold rectB;rw[h1,h2]
 rw[e];clear h1 h2 e;cases c1<;>cases c2;all_goals go_enter func123,ntmps123;all_goals go_wp2_with(first|(go_at_call_of 169 (Value.agg #[.int .i64 t,.int .i64 l]);refine(ref03_May t l _).mono ?_;rw[H1.out];rintro e w1 ⟨rfl,hb⟩;obtain⟨l3,n3,rfl⟩:=zA0 hb;clear hb)|(go_at_call_of 169 (Value.agg #[.int .i64 b,.int .i64 r]);refine(ref03_May b r _).mono ?_;rw[H2.out];rintro e w1 ⟨rfl,hb⟩;obtain⟨l4,n4,rfl⟩:=zA0 hb;clear hb))
 all_goals go_returns;all_goals refine⟨congrArg (fun b=>Ending.returned (Value.bool b)) ?_,bel⟩;all_goals simp_all;all_goals omega
theorem ref03_In (t l b r row col:Int) (w:World):Rt 124 #[.agg #[.int .i64 t,.int .i64 l,.int .i64 b,.int .i64 r],.agg #[.int .i64 row,.int .i64 col]] w (.bool (inB t l b r row col)):=by
 go_enter func124,ntmps124;go_wp2_with(go_at_call 170;refine mB (ref03_within _ _ _ _) ?_;intro l1 n1)
 all_goals go_returns;all_goals refine⟨congrArg (fun b=>Ending.returned (Value.bool b)) (?_:_=inB _ _ _ _ _ _),bel⟩;all_goals simp_all[inB];all_goals omega
theorem ref03_Before (r c r' c':Int) (w:World):Rt 125 #[.agg #[.int .i64 r,.int .i64 c],.agg #[.int .i64 r',.int .i64 c']] w (.bool (befB r c r' c')):=by
 go_enter func125,ntmps125;go_wp2;all_goals go_ret;all_goals refine⟨congrArg (fun b=>Ending.returned (Value.bool b)) (?_:_=befB _ _ _ _),bel⟩;all_goals simp_all[befB];all_goals omega
theorem ref08_may_one (a:Arg) (es:List En) (hm:a.many=false) (h64: -9223372036854775808<=a.val.num) (hE:es.length=a.n) (w:World):Rt 67 #[a.agg] w (.bool (argOk a es)):=by
 obtain⟨m,v,t,l,b,r,A,n,c⟩:=a;simp only at hm hE h64;have ha:=zh (show -9223372036854775808<=v.num from h64);clear h64;subst hm;have hq:=rectEq t l b r;obtain⟨z,hz⟩:=lt_ (((decide (t=0)&&decide (l=0))&&(decide (b=0)&&decide (r=0))));have e:argOk ⟨false,v,t,l,b,r,A,n,c⟩ es=((z&&decide (n=0))&&mayG v):=by unfold argOk;rw[if_neg (show ¬ (false=true) by decide),<-hz]
 rw[e];rw[hz] at hq;clear e hz hE;unfold Arg.agg;dsimp only;cases z
 ·go_enter func67,ntmps67;go_wp2;all_goals(go_returns;exact rb_)
 by_cases hn:n=0
 have hb:((n:Nat):Int)=0:=by omega
 rotate_left
 have hb: ¬ ((n:Nat):Int)=0:=by omega
 all_goals
  go_enter func67,ntmps67;go_wp2_with(go_at_call 122;refine mB (ref02_May _ ha.out _) ?_;intro l1 n1)
  all_goals(go_returns;exact⟨by simp[hn],bel⟩)
theorem ref08_may_many (a:Arg) (es:List En) (hm:a.many=true) (w:World) (hE:zAW w a es) (h64: -9223372036854775808<=a.val.num) (he:∀ e∈es,-9223372036854775808<=e.v.num) (hn:a.n<=1000000000000):Rt 67 #[a.agg] w (.bool (argOk a es)):=by
 obtain⟨m,v,t,l,b,r,A,n,c⟩:=a;obtain⟨hw,hz⟩:=hE;simp only at hm hw hz hn;subst hm;have hq:=neqV v.tag v.num v.str v.is v.code 0 0 ⟨#[]⟩ false 0;obtain⟨c1,h1⟩:=lt_ (rectB t l b r);obtain⟨c2,h2⟩:=lt_ (eqB v ⟨0,0,⟨#[]⟩,false,0⟩);obtain⟨R,h3⟩:=lt_ (zAm t l b r none es);have e:argOk ⟨true,v,t,l,b,r,A,n,c⟩ es=((c1&&c2)&&R):=by unfold argOk;rw[if_pos rfl,h1,h3];rw[<- h2]
 rw[e];have hD:eqB ⟨v.tag,v.num,v.str,v.is,v.code⟩ ⟨0,0,⟨#[]⟩,false,0⟩=c2:=h2;rw[hD] at hq;have H1:=zh h1;have H3:=zh h3;have HE:=zh hz;have HL:=zh hw;have H6:=zh he;clear e h1 h2 h3 hw hz hD he h64;unfold Arg.agg;dsimp only;cases c1
 rotate_left
 cases c2
 rotate_left
 ·go_enter func67,ntmps67;go_wp2_with(go_at_call 123;refine(ref03_MayRect t l b r _).mono ?_;rw[H1.out];rintro e w1 ⟨rfl,hb⟩;obtain⟨l1,n1,rfl⟩:=zA0 hb;clear hb)
  go_loopw [3] (fun s wr=>∃ j:Nat,j<=n/\s=.int .i64 j/\Below (w.alloc (.cells #[.bool true,.int .i64 v.tag,.int .i64 v.num,.string v.str,.bool v.is,.int .i64 v.code,.int .i64 t,.int .i64 l,.int .i64 b,.int .i64 r,.slice A n c] 51)).heap.size (w.alloc (.cells #[.bool true,.int .i64 v.tag,.int .i64 v.num,.string v.str,.bool v.is,.int .i64 v.code,.int .i64 t,.int .i64 l,.int .i64 b,.int .i64 r,.slice A n c] 51)) wr/\zAm t l b r (prevE es j) (es.drop j)=R) (fun s _=>n-(intOf s).toNat)
  case atStart=>exact⟨0,Nat.zero_le _,rfl,bel,H3.out⟩
  case round =>
   obtain⟨j,hj,rfl,hB,hR⟩:=hrel;have hA:=zh hB;have hs:Below w.heap.size w wr:=(show Below w.heap.size w (w.alloc _) from bel).trans (hB.mono (by simp));have HB:=zh hs;have hG:=hs.size;have hk:=hB.size;have hH:w.heap.size<wr.heap.size:=by simp at hk;omega
   have pc:∀ i u,(#[Value.bool true,.int .i64 v.tag,.int .i64 v.num,.string v.str,.bool v.is,.int .i64 v.code,.int .i64 t,.int .i64 l,.int .i64 b,.int .i64 r,.slice A n c]:Array Value).toList[i]? =some u->wr.cell? ⟨w.heap.size,i,none⟩=some u:=fun i u hu=>((AtB.new (w:=w) (t:=51) rfl).below hB) i u hu;have p6:=pc 6 _ rfl;have p7:=pc 7 _ rfl;have p8:=pc 8 _ rfl;have p9:=pc 9 _ rfl;have p10:=pc 10 _ rfl;clear pc hB hs;by_cases hlt:j<n
   obtain⟨bk,off,rfl,hbl,hc⟩:=HE.out.2 (by omega);obtain⟨x,hx⟩:∃ x,es[j]? =some x:=⟨_,Q3 (show j<es.length by have:=HL.out;omega)⟩
   have hh:=zh (show -9223372036854775808<=x.v.num from (H6.out x (List.mem_of_getElem? hx)));have hd:es.drop j=x::es.drop (j+1):=by
    obtain⟨hm,hv⟩:=List.getElem?_eq_some_iff.1 hx;rw[List.drop_eq_getElem_cons hm,hv]
   have ha:∀ (k:Nat) (y:En),es[k]? =some y->∀ i u,y.cells[i]? =some u->wr.cell? ⟨bk,off+(k*7+i),none⟩=some u:=fun k y hy i u hu=>by
    have h1:=hc _ u (flatC_at En.cells 7 (fun _=>rfl) es k y hy i u hu);exact(HB.out.cell (p:=⟨bk,_,none⟩) (Q7 w _ h1)).trans h1
   have hbr:bk<wr.heap.size:=by omega
   have x0:=ha j x hx 0 _ rfl;have x1:=ha j x hx 1 _ rfl;have x2:=ha j x hx 2 _ rfl;have x3:=ha j x hx 3 _ rfl;have x4:=ha j x hx 4 _ rfl;have x5:=ha j x hx 5 _ rfl;have x6:=ha j x hx 6 _ rfl;simp only[<- Q4,Q8] at x0 x1 x2 x3 x4 x5 x6;have fx:∀ i u,x.cells[i]? =some u->(wr.alloc (.cells #[.int .i64 x.row,.int .i64 x.col,.int .i64 x.v.tag,.int .i64 x.v.num,.string x.v.str,.bool x.v.is,.int .i64 x.v.code] 76)).cell? ⟨wr.heap.size,i,none⟩=some u:=fun i u hu=>(AtB.new rfl) i u hu;obtain⟨f0,f1,f2,f3,f4,f5,f6⟩:=tk7 fx;clear fx;rw[hd] at hR;have hr:prevE es (j+1)=some x:=by unfold prevE;rw[if_neg (by omega)];exact hx
   obtain⟨b1,hl⟩:=lt_ (inB t l b r x.row x.col);obtain⟨b2,ho⟩:=lt_ (mayG x.v);have HI:=zh hl;have HV:=zh ho;rcases Nat.eq_zero_or_pos j with h0|h0;have hp:prevE es j=none:=by unfold prevE;rw[if_pos h0]
   rw[hp] at hR;have hf:((b1&&b2)&&zAm t l b r (some x) (es.drop (j+1)))=R:=by rw[<- hl,<-ho];exact hR
   have hF:=zh h0;clear h0 hp;clear hR hl ho hc ha hd hx;rw[<- hr] at hf;clear hr;cases b1
   rotate_left
   cases b2
   rotate_left
   ·have hg:=zh (show zAm t l b r (prevE es (j+1)) (es.drop (j+1))=R from by rw[<- hf];rfl);clear hf
    go_upto_region 9 with fail
    have hj2:((j:Nat):Int)=0:=by have:=hF.out;omega
    (refine qmI ?_;(repeat(go_big_quiet_step (first|(go_at_call 124;have h:=ref03_In t l b r x.row x.col;rw[HI.out] at h;exact Calls.zA1 (h _))|(go_at_call 122;have h:=ref02_May x.v hh.out;rw[HV.out] at h;exact Calls.zA1 (h _)))));refine qmE ?_;intro lq nq)
    all_goals go_wp2;all_goals exact⟨⟨j+1,by omega,by go_num,hA.out.trans ((show Below wr.heap.size wr _ from bel).mono hk),hg.out⟩,by simp[intOf];omega⟩
   obtain⟨i,hi⟩:∃ i,j=i+1:=⟨j-1,by omega⟩
   obtain⟨y,hy⟩:∃ y,es[i]? =some y:=⟨_,Q3 (show i<es.length by have:=HL.out;omega)⟩
   have y0:=ha i y hy 0 _ rfl;have y1:=ha i y hy 1 _ rfl;simp only[<- Q4,Q8] at y0 y1;have hp:prevE es j=some y:=by unfold prevE;rw[if_neg (by omega),hi];exact hy
   obtain⟨b3,ht⟩:=lt_ (befB y.row y.col x.row x.col);have HF:=zh ht;rw[hp] at hR;have hf:(((b1&&b2)&&b3)&&zAm t l b r (some x) (es.drop (j+1)))=R:=by rw[<- hl,<-ho,<-ht];exact hR
   have hji:((j:Nat):Int)-1=(i:Int):=by omega
   have hj1:(0:Int)<(j:Int):=by omega
   clear hR hl ho ht hc ha hd hx hy hp hi;rw[<- hr] at hf;clear hr;cases b1
   rotate_left
   cases b2
   rotate_left
   cases b3
   rotate_left
   ·have hg:=zh (show zAm t l b r (prevE es (j+1)) (es.drop (j+1))=R from by rw[<- hf];rfl);clear hf
    go_upto_region 9 with fail
    (refine qmI ?_;(repeat(go_big_quiet_step (first|(go_at_call 124;have h:=ref03_In t l b r x.row x.col;rw[HI.out] at h;exact Calls.zA1 (h _))|(go_at_call 122;have h:=ref02_May x.v hh.out;rw[HV.out] at h;exact Calls.zA1 (h _))|(go_at_call 125;have h:=ref03_Before y.row y.col x.row x.col;rw[HF.out] at h;exact Calls.zA1 (h _)))));refine qmE ?_;intro lq nq)
    all_goals go_wp2;all_goals exact⟨⟨j+1,by omega,by go_num,hA.out.trans ((show Below wr.heap.size wr _ from bel).mono hk),hg.out⟩,by simp[intOf];omega⟩
   ·obtain rfl:j=n:=by omega
    rw[List.drop_of_length_le (by have:=HL.out;omega)] at hR;have hC:R=true:=by rw[<- hR];unfold zAm;rfl
    have hg:=zh hC;clear hR hC HE;go_wp2;go_returns;exact⟨by rw[hg.out];rfl,HB.out⟩
   all_goals
    have hg:=zh (show R=false from by rw[<- hf];rfl);clear hf
    go_upto_region 9 with fail
    (refine qmI ?_;(repeat(go_big_quiet_step (first|(go_at_call 124;have h:=ref03_In t l b r x.row x.col;rw[HI.out] at h;exact Calls.zA1 (h _))|(go_at_call 122;have h:=ref02_May x.v hh.out;rw[HV.out] at h;exact Calls.zA1 (h _))|(go_at_call 125;have h:=ref03_Before y.row y.col x.row x.col;rw[HF.out] at h;exact Calls.zA1 (h _)))));refine qmE ?_;intro lq nq)
    all_goals go_wp2;all_goals(go_returns;exact⟨by rw[hg.out];rfl,HB.out.trans ((show Below wr.heap.size wr _ from bel).mono hG)⟩)
 all_goals
  go_enter func67,ntmps67;go_wp2_with(go_at_call 123;refine(ref03_MayRect t l b r _).mono ?_;rw[H1.out];rintro e w1 ⟨rfl,hb⟩;obtain⟨l1,n1,rfl⟩:=zA0 hb;clear hb)
  all_goals(go_returns;exact rb_)
theorem ref08_may (a:Arg) (es:List En) (w:World) (hE:zAW w a es) (h64: -9223372036854775808<=a.val.num) (he:∀ e∈es,-9223372036854775808<=e.v.num) (hn:a.n<=1000000000000):Rt 67 #[a.agg] w (.bool (argOk a es)):=by
 cases hm:a.many
 ·exact ref08_may_one a es hm h64 hE.1 w
 ·exact ref08_may_many a es hm w hE h64 he hn
theorem ref08_ArgsX (al:List Arg) (A:Option Addr) (n c B:Nat) (w:World) (hr:Reads w B 11 A n (zAY al)) (hm:n<=1000000000000) (ok:Nat->Bool)
  (hok:∀ j a,al[j]? =some a->∀ W,Below w.heap.size w W->Rt 67 #[a.agg] W (.bool (ok j))) :
  Calls prog 20 #[.slice A n c] w fun e w'=>∃ v,e=.returned (.tuple #[v,.bool ((Q5 al.length).all ok)])/\w'.ownsRow w.heap.size 4 1 v al.length ((al.map Arg.many).map Value.bool)/\Below w.heap.size w w':=by
 have hl:al.length=n:=by
  have:=hr.1;rw[zAN] at this;omega
 obtain⟨bs,ho⟩:∃ bs,bs=(al.map Arg.many).map Value.bool:=⟨_,rfl⟩
 have ht:=zh (show ∀ (j:Nat) (x:Arg),al[j]? =some x->bs[j]? =some (.bool x.many) from fun j x hx=>by rw[ho,Q9,Q9,hx];rfl);rw[hl];have hA:=zh (show bs.length=n by rw[ho,List.length_map,List.length_map,hl]);rw[<- ho];have HR:=zh hr;have hE:=zh hok;have hC:=zh hl;clear hr hok ho;obtain⟨i0,hi,hw,hy,hz⟩:=info_parts info_B;go_enter func20,ntmps20;go_wp2
 go_loopw [4,5,6] (fun v k t wr=>∃ j:Nat,j<=n/\t=.int .i64 j/\k=.bool ((Q5 j).all ok)/\zAA w wr 4 1 v j (bs.take j)) (fun _ _ t _=>n-(intOf t).toNat)
 case atStart=>exact⟨0,Nat.zero_le _,rfl,rfl,Below.refl _ _,World.ownsRow_nil _ _ _ _⟩
 case round =>
  obtain⟨j,hj,rfl,rfl,hG⟩:=hrel;have HG:=zh hG;clear hG;by_cases hlt:j<n
  ·obtain⟨a,ha⟩:∃ a,al[j]? =some a:=⟨_,Q3 (show j<al.length by omega)⟩
   obtain⟨bk,off,rfl,_,hc⟩:=HR.out.2 (by omega);have hh:∀ i u,a.cells[i]? =some u->wr.cell? ⟨bk,off+(j*11+i),none⟩=some u:=fun i u hu=>by
    have h1:=hc _ u (zAP al j a ha i u hu);exact(HG.out.1.cell (p:=⟨bk,_,none⟩) (Q7 w _ h1)).trans h1
   obtain⟨c0,c1,c2,c3,c4,c5,c6,c7,c8,c9,c10⟩:=tkB hh;simp only[<- Q4,Q8] at c0 c1 c2 c3 c4 c5 c6 c7 c8 c9 c10;have hv:=cltK c0;have hp:=zh ha;have hg:=zh (fun i u (hu:a.cells[i]? =some u)=>hc _ u (zAP al j a ha i u hu));have hD:=zh (fun W (hB:Below w.heap.size w W)=>hE.out j a ha W hB);have hs:(Q5 (j+1)).all ok=((Q5 j).all ok&&ok j):=by rw[List.range_succ,List.all_append];simp
   have HS:=zh hs;obtain⟨k,hk⟩:=lt_ ((Q5 j).all ok);rw[hk] at HS;rw[hk];clear hh hc ha hs hk;cases k
   ·go_wp2_with(at_builtin;refine wpList_append_own _ rfl _ _ 61 rfl w.heap.size 4 i0 _ 1 1 underlying61 hi hw hy hz rfl (by decide) _ _ _ rfl (own_below HG.out.2 bel) _ 1 1 [.bool a.many] rfl rfl ?_ ?_ ?_ ?_ ?_ ?_)
    ·first|exact fun i u hu=>zAO (by simp) i u hu|exact fun i u hu=>hu
    ·intro u hu;simp only[List.mem_cons,QA,or_false] at hu;subst hu;rfl
    ·simp only[maxLen];omega
    ·omega
    ·have h1:=HG.out.1.size;simp at h1 ⊢;omega
    ·intro v' w3 he hd _;have R:=zAA.step HG.out bel (show w3.ownsRow w.heap.size 4 1 v' (j+1) (bs.take j++[.bool a.many]) from by simpa using he) hd;rw[<- zAJ (ht.out j a hp.out)] at R;have hn:=zh R;have hf:=zh (show Below w.heap.size w w3 from R.1);clear he hd R;clear c0 c1 c2 c3 c4 c5 c6 c7 c8 c9 c10;go_wp2;go_roundw;case rel=>exact⟨j+1,by omega,by go_num,by rw[HS.out];rfl,hn.out⟩
     case measure=>simp[intOf];omega
   ·go_wp2_with(at_builtin;refine wpList_append_own _ rfl _ _ 61 rfl w.heap.size 4 i0 _ 1 1 underlying61 hi hw hy hz rfl (by decide) _ _ _ rfl (own_below HG.out.2 bel) _ 1 1 [.bool a.many] rfl rfl ?_ ?_ ?_ ?_ ?_ ?_)
    ·first|exact fun i u hu=>zAO (by simp) i u hu|exact fun i u hu=>hu
    ·intro u hu;simp only[List.mem_cons,QA,or_false] at hu;subst hu;rfl
    ·simp only[maxLen];omega
    ·omega
    ·have h1:=HG.out.1.size;simp at h1 ⊢;omega
    ·intro v' w3 he hd _;have R:=zAA.step HG.out bel (show w3.ownsRow w.heap.size 4 1 v' (j+1) (bs.take j++[.bool a.many]) from by simpa using he) hd;rw[<- zAJ (ht.out j a hp.out)] at R;have hn:=zh R;have hf:=zh (show Below w.heap.size w w3 from R.1);clear he hd R;clear c0 c1 c2 c3 c4 c5 c6 c7 c8 c9 c10 hv;have c0:=cell_below (hg.out 0 _ rfl) hf.out;have c1:=cell_below (hg.out 1 _ rfl) hf.out;have c2:=cell_below (hg.out 2 _ rfl) hf.out;have c3:=cell_below (hg.out 3 _ rfl) hf.out;have c4:=cell_below (hg.out 4 _ rfl) hf.out;have c5:=cell_below (hg.out 5 _ rfl) hf.out;have c6:=cell_below (hg.out 6 _ rfl) hf.out;have c7:=cell_below (hg.out 7 _ rfl) hf.out;have c8:=cell_below (hg.out 8 _ rfl) hf.out;have c9:=cell_below (hg.out 9 _ rfl) hf.out;have c10:=cell_below (hg.out 10 _ rfl) hf.out;simp only[<- Q4,Q8] at c0 c1 c2 c3 c4 c5 c6 c7 c8 c9 c10;have hv:=cltK c0;go_wp2_with(go_at_call 67;refine(hD.out _ hf.out).mono ?_;rintro e w2 ⟨rfl,hb⟩;have hq:=zh hb;clear hb)
     go_roundw;case rel=>exact⟨j+1,by omega,by go_num,by rw[HS.out];simp,hn.out.1.trans (hq.out.mono hn.out.1.size),own_below hn.out.2 hq.out⟩
     case measure=>simp[intOf];omega
  ·obtain rfl:j=n:=by omega
   have HB:=zh HG.out.1;have HO:=zh HG.out.2;rw[List.take_of_length_le (Nat.le_of_eq hA.out)] at HO;go_wp2;go_returns;exact⟨_,rfl,HO.out,HB.out⟩
end Go.Proofs.YtnccknhbplaieaaGreatDoor
