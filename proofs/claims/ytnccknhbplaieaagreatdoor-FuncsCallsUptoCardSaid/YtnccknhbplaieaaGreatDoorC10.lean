/- Parts. -/
import Derived.Test.YtnccknhbplaieaaGreatDoorC06
import Derived.Test.YtnccknhbplaieaaGreatDoorC05
import Derived.Test.YtnccknhbplaieaaGreatDoorC07
import Derived.Below
import Derived.BigCall
import Derived.BigGuard
import Derived.Carry
import Derived.ChangeAlike
import Derived.ChangeMaps5
import Derived.ChangeSame
import Derived.CheckFast
import Derived.Deep.CutBlock
import Derived.Deep.DeepHandedRow
import Derived.Deep.DeepWitnessRowRef
import Derived.Deep.Grids
import Derived.Deep.Slices
import Derived.DeepKeys4
import Derived.Defers
import Derived.DiesKit
import Derived.HeadItems
import Derived.Items
import Derived.JoinedCond
import Derived.JoinedOf
import Derived.JoinedTies
import Derived.KernelRfl
import Derived.LaidByTextLater
import Derived.LaidOnce
import Derived.LaidSub
import Derived.Laws.Externs
import Derived.Laws.IdiomStrings
import Derived.Laws.LoneSync
import Derived.Laws.Pointers
import Derived.Lay
import Derived.Lib.AppendIntMem
import Derived.Lib.Bytealg
import Derived.Lib.ItoaMem
import Derived.Lib.ItoaNum
import Derived.Lib.LaidTab
import Derived.Lib.SmallJoins
import Derived.Lib.TrimByte
import Derived.Lib.Walk
import Derived.LoadGo3
import Derived.LoopIn
import Derived.LoopNIn
import Derived.MapViews
import Derived.Maps.AppendAt
import Derived.Maps.Keyed
import Derived.OpenShut
import Derived.OwnWalkIn
import Derived.PartsItems
import Derived.ProofKit
import Derived.RangeFuncBound
import Derived.RangeFuncBox
import Derived.RangeFuncCalls
import Derived.RangeFuncLeaves
import Derived.RangeFuncNested
import Derived.RegionCalls
import Derived.RegionTactic
import Derived.SevenBuild
import Derived.SevenTiedAt
import Derived.Tactics2
import Derived.TacticsInMore
import Derived.WalkSpells
import GoSem.Claim
import GoSem.ClaimJoined
import GoSem.ClaimMapViews
import GoSem.ClaimSeven
import GoSem.Claims
import GoSem.PinnedTables
set_option linter.all false
set_option maxRecDepth 100000
set_option maxHeartbeats 4000000
namespace Go.Proofs.YtnccknhbplaieaaGreatDoor
end Go.Proofs.YtnccknhbplaieaaGreatDoor
namespace Go.Proofs.YtnccknhbplaieaaGreatDoor
open Go Go.RowKit Go.Proofs.Tryz
open Go.Lib renaming hid->zh
theorem addr_MayRect (t l b r:Int) (w:World):Rt 30 #[.agg #[.int .i64 t,.int .i64 l,.int .i64 b,.int .i64 r]] w (.bool (rectB t l b r)):=by
 obtain⟨c1,h1⟩:=lt_ (cellB t l);obtain⟨c2,h2⟩:=lt_ (cellB b r);have H1:=zh h1;have H2:=zh h2;have e:rectB t l b r=((c1&&c2)&&(decide (t<=b)&&decide (l<=r))):=by unfold rectB;rw[h1,h2]
 rw[e];clear h1 h2 e;cases c1<;>cases c2;all_goals go_enter func30,ntmps30;all_goals go_wp2_with(first|(go_at_call 88;refine mB (addr_first _ _ _ _ _) ?_;intro l1 n1)|(go_at_call 89;refine mB (addr_last _ _ _ _ _) ?_;intro l2 n2)|(go_at_call_of 87 (Value.agg #[.int .i64 t,.int .i64 l]);refine(addr_May t l _).mono ?_;rw[H1.out];rintro e w1 ⟨rfl,hb⟩;obtain⟨l3,n3,rfl⟩:=zA0 hb;clear hb)|(go_at_call_of 87 (Value.agg #[.int .i64 b,.int .i64 r]);refine(addr_May b r _).mono ?_;rw[H2.out];rintro e w1 ⟨rfl,hb⟩;obtain⟨l4,n4,rfl⟩:=zA0 hb;clear hb))
 all_goals go_returns;all_goals refine⟨congrArg (fun b=>Ending.returned (Value.bool b)) ?_,bel⟩;all_goals simp_all;all_goals omega
structure En where
 row:Int
 col:Int
 v:V
def En.cells (e:En):List Value:=[.int .i64 e.row,.int .i64 e.col,.int .i64 e.v.tag,.int .i64 e.v.num,.string e.v.str,.bool e.v.is,.int .i64 e.v.code]
def zAm (t l b r:Int):Option En->List En->Bool
 | _,[]=>true
 | none,e::es=>(inB t l b r e.row e.col&&mayG e.v)&&zAm t l b r (some e) es
 | some p,e::es=>((inB t l b r e.row e.col&&mayG e.v)&&befB p.row p.col e.row e.col)&&zAm t l b r (some e) es
def argOk (a:Arg) (es:List En):Bool:=if a.many then (rectB a.top a.left a.bottom a.right&&eqB a.val ⟨0,0,⟨#[]⟩,false,0⟩)&&zAm a.top a.left a.bottom a.right none es
 else ((decide (a.top=0)&&decide (a.left=0))&&(decide (a.bottom=0)&&decide (a.right=0))&&decide (a.n=0))&&mayG a.val
theorem rectEq (t l b r:Int) (w:World):(binOp .eql 48 (.agg #[.int .i64 t,.int .i64 l,.int .i64 b,.int .i64 r]) (.agg #[.int .i64 0,.int .i64 0,.int .i64 0,.int .i64 0])).run prog w=.ok (.bool ((decide (t=0)&&decide (l=0))&&(decide (b=0)&&decide (r=0)))) w:=by
 rw[run_eql_struct];go_simp;by_cases h1:t=0<;>by_cases h2:l=0<;>by_cases h3:b=0<;>by_cases h4:r=0<;>simp_all
def zAW (w:World) (a:Arg) (es:List En):Prop:=es.length=a.n/\Reads w w.heap.size 7 a.ents a.n (flatC En.cells es)
theorem zAW.below {w w':World} {a:Arg} {es:List En} (h:zAW w a es) (hb:Below w.heap.size w w'):zAW w' a es:=⟨h.1,(h.2.below hb).lift hb.size⟩
def prevE (es:List En) (j:Nat):Option En:=if j=0 then none else es[j-1]?
theorem may_one (F:Nat) (hF:F=147∨F=150∨F=154∨F=12) (a:Arg) (es:List En) (hm:a.many=false) (hE:es.length=a.n) (w:World):Calls prog F #[a.agg] w fun e w'=>e=.returned (.bool (argOk a es))/\Below w.heap.size w w':=by
 rcases hF with rfl|rfl|rfl|rfl;all_goals
  obtain⟨m,v,t,l,b,r,A,n,c⟩:=a;simp only at hm hE;subst hm;have hq:=rectEq t l b r;obtain⟨z,hz⟩:=lt_ (((decide (t=0)&&decide (l=0))&&(decide (b=0)&&decide (r=0))));have e:argOk ⟨false,v,t,l,b,r,A,n,c⟩ es=((z&&decide (n=0))&&mayG v):=by unfold argOk;rw[if_neg (show ¬ (false=true) by decide),<-hz]
  rw[e];rw[hz] at hq;clear e hz hE;unfold Arg.agg;dsimp only;cases z
  ·(first|go_enter func147,ntmps147|go_enter func150,ntmps150|go_enter func154,ntmps154|go_enter func12,ntmps12)
   go_wp2;all_goals(go_returns;exact rb_)
  by_cases hn:n=0
  have ha:((n:Nat):Int)=0:=by omega
  rotate_left
  have ha: ¬ ((n:Nat):Int)=0:=by omega
  all_goals
   (first|go_enter func147,ntmps147|go_enter func150,ntmps150|go_enter func154,ntmps154|go_enter func12,ntmps12)
   go_wp2_with(go_at_call 29;refine mB (zB1 _ _) ?_;intro l1 n1)
   all_goals(go_returns;exact⟨by simp[hn],bel⟩)
theorem may_many (F:Nat) (hF:F=147∨F=150∨F=154∨F=12) (a:Arg) (es:List En) (hm:a.many=true) (w:World) (hE:zAW w a es) (hn:a.n<=1000000000000):Calls prog F #[a.agg] w fun e w'=>e=.returned (.bool (argOk a es))/\Below w.heap.size w w':=by
 rcases hF with rfl|rfl|rfl|rfl;all_goals
  obtain⟨m,v,t,l,b,r,A,n,c⟩:=a;obtain⟨hs,ht⟩:=hE;simp only at hm hs ht hn;subst hm;have hq:=neqV v.tag v.num v.str v.is v.code 0 0 ⟨#[]⟩ false 0;obtain⟨c1,h1⟩:=lt_ (rectB t l b r);obtain⟨c2,h2⟩:=lt_ (eqB v ⟨0,0,⟨#[]⟩,false,0⟩);obtain⟨R,h3⟩:=lt_ (zAm t l b r none es);have e:argOk ⟨true,v,t,l,b,r,A,n,c⟩ es=((c1&&c2)&&R):=by unfold argOk;rw[if_pos rfl,h1,h3];rw[<- h2]
  rw[e];have hA:eqB ⟨v.tag,v.num,v.str,v.is,v.code⟩ ⟨0,0,⟨#[]⟩,false,0⟩=c2:=h2;rw[hA] at hq;have H1:=zh h1;have H3:=zh h3;have HE:=zh ht;have HL:=zh hs;clear e h1 h2 h3 hs ht hA;unfold Arg.agg;dsimp only;cases c1
  rotate_left
  cases c2
  rotate_left
  ·(first|go_enter func147,ntmps147|go_enter func150,ntmps150|go_enter func154,ntmps154|go_enter func12,ntmps12)
   go_wp2_with(go_at_call 30;refine(addr_MayRect t l b r _).mono ?_;rw[H1.out];rintro e w1 ⟨rfl,hb⟩;obtain⟨l1,n1,rfl⟩:=zA0 hb;clear hb)
   go_loopw [36] (fun s wr=>∃ j:Nat,j<=n/\s=.int .i64 j/\Below (w.alloc (.cells #[.bool true,.int .i64 v.tag,.int .i64 v.num,.string v.str,.bool v.is,.int .i64 v.code,.int .i64 t,.int .i64 l,.int .i64 b,.int .i64 r,.slice A n c] 51)).heap.size (w.alloc (.cells #[.bool true,.int .i64 v.tag,.int .i64 v.num,.string v.str,.bool v.is,.int .i64 v.code,.int .i64 t,.int .i64 l,.int .i64 b,.int .i64 r,.slice A n c] 51)) wr/\zAm t l b r (prevE es j) (es.drop j)=R) (fun s _=>n-(intOf s).toNat)
   case atStart=>exact⟨0,Nat.zero_le _,rfl,bel,H3.out⟩
   case round =>
    obtain⟨j,hj,rfl,hB,hR⟩:=hrel;have hw:=zh hB;have hp:Below w.heap.size w wr:=(show Below w.heap.size w (w.alloc _) from bel).trans (hB.mono (by simp));have HB:=zh hp;have hD:=hp.size;have hg:=hB.size;have hG:w.heap.size<wr.heap.size:=by simp at hg;omega
    have pc:∀ i u,(#[Value.bool true,.int .i64 v.tag,.int .i64 v.num,.string v.str,.bool v.is,.int .i64 v.code,.int .i64 t,.int .i64 l,.int .i64 b,.int .i64 r,.slice A n c]:Array Value).toList[i]? =some u->wr.cell? ⟨w.heap.size,i,none⟩=some u:=fun i u hu=>((AtB.new (w:=w) (t:=51) rfl).below hB) i u hu;have p6:=pc 6 _ rfl;have p7:=pc 7 _ rfl;have p8:=pc 8 _ rfl;have p9:=pc 9 _ rfl;have p10:=pc 10 _ rfl;clear pc hB hp;by_cases hlt:j<n
    obtain⟨bk,off,rfl,hbl,hc⟩:=HE.out.2 (by omega);obtain⟨x,hx⟩:∃ x,es[j]? =some x:=⟨_,List.getElem?_eq_getElem (show j<es.length by have:=HL.out;omega)⟩
    have hd:es.drop j=x::es.drop (j+1):=by
     obtain⟨hm,hv⟩:=List.getElem?_eq_some_iff.1 hx;rw[List.drop_eq_getElem_cons hm,hv]
    have ha:∀ (k:Nat) (y:En),es[k]? =some y->∀ i u,y.cells[i]? =some u->wr.cell? ⟨bk,off+(k*7+i),none⟩=some u:=fun k y hy i u hu=>by
     have h1:=hc _ u (flatC_at En.cells 7 (fun _=>rfl) es k y hy i u hu);exact(HB.out.cell (p:=⟨bk,_,none⟩) (World.block_lt_of_cell? w _ h1)).trans h1
    have hbr:bk<wr.heap.size:=by omega
    have x0:=ha j x hx 0 _ rfl;have x1:=ha j x hx 1 _ rfl;have x2:=ha j x hx 2 _ rfl;have x3:=ha j x hx 3 _ rfl;have x4:=ha j x hx 4 _ rfl;have x5:=ha j x hx 5 _ rfl;have x6:=ha j x hx 6 _ rfl;simp only[<- Nat.add_assoc,Nat.add_zero] at x0 x1 x2 x3 x4 x5 x6;have fx:∀ i u,x.cells[i]? =some u->(wr.alloc (.cells #[.int .i64 x.row,.int .i64 x.col,.int .i64 x.v.tag,.int .i64 x.v.num,.string x.v.str,.bool x.v.is,.int .i64 x.v.code] 76)).cell? ⟨wr.heap.size,i,none⟩=some u:=fun i u hu=>(AtB.new rfl) i u hu;obtain⟨f0,f1,f2,f3,f4,f5,f6⟩:=tk7 fx;clear fx;rw[hd] at hR;have ho:prevE es (j+1)=some x:=by unfold prevE;rw[if_neg (by omega)];exact hx
    obtain⟨b1,hh⟩:=lt_ (inB t l b r x.row x.col);obtain⟨b2,hk⟩:=lt_ (mayG x.v);have HI:=zh hh;have HV:=zh hk;rcases Nat.eq_zero_or_pos j with h0|h0;have hl:prevE es j=none:=by unfold prevE;rw[if_pos h0]
    rw[hl] at hR;have he:((b1&&b2)&&zAm t l b r (some x) (es.drop (j+1)))=R:=by rw[<- hh,<-hk];exact hR
    have hC:=zh h0;clear h0 hl;clear hR hh hk hc ha hd hx;rw[<- ho] at he;clear ho;cases b1
    rotate_left
    cases b2
    rotate_left
    ·have hf:=zh (show zAm t l b r (prevE es (j+1)) (es.drop (j+1))=R from by rw[<- he];rfl);clear he
     go_upto_region 8 with fail
     have hj2:((j:Nat):Int)=0:=by have:=hC.out;omega
     (refine qmI ?_;(repeat(go_big_quiet_step (first|(go_at_call 31;have h:=addr_In t l b r x.row x.col;rw[HI.out] at h;exact Calls.zA1 (h _))|(go_at_call 29;have h:=zB1 x.v;rw[HV.out] at h;exact Calls.zA1 (h _)))));refine qmE ?_;intro lq nq)
     all_goals go_wp2;all_goals exact⟨⟨j+1,by omega,by go_num,hw.out.trans ((show Below wr.heap.size wr _ from bel).mono hg),hf.out⟩,by simp[intOf];omega⟩
    obtain⟨i,hi⟩:∃ i,j=i+1:=⟨j-1,by omega⟩
    obtain⟨y,hy⟩:∃ y,es[i]? =some y:=⟨_,List.getElem?_eq_getElem (show i<es.length by have:=HL.out;omega)⟩
    have y0:=ha i y hy 0 _ rfl;have y1:=ha i y hy 1 _ rfl;simp only[<- Nat.add_assoc,Nat.add_zero] at y0 y1;have hl:prevE es j=some y:=by unfold prevE;rw[if_neg (by omega),hi];exact hy
    obtain⟨b3,hr⟩:=lt_ (befB y.row y.col x.row x.col);have HF:=zh hr;rw[hl] at hR;have he:(((b1&&b2)&&b3)&&zAm t l b r (some x) (es.drop (j+1)))=R:=by rw[<- hh,<-hk,<-hr];exact hR
    have hji:((j:Nat):Int)-1=(i:Int):=by omega
    have hj1:(0:Int)<(j:Int):=by omega
    clear hR hh hk hr hc ha hd hx hy hl hi;rw[<- ho] at he;clear ho;cases b1
    rotate_left
    cases b2
    rotate_left
    cases b3
    rotate_left
    ·have hf:=zh (show zAm t l b r (prevE es (j+1)) (es.drop (j+1))=R from by rw[<- he];rfl);clear he
     go_upto_region 8 with fail
     (refine qmI ?_;(repeat(go_big_quiet_step (first|(go_at_call 31;have h:=addr_In t l b r x.row x.col;rw[HI.out] at h;exact Calls.zA1 (h _))|(go_at_call 29;have h:=zB1 x.v;rw[HV.out] at h;exact Calls.zA1 (h _))|(go_at_call 32;have h:=addr_Before y.row y.col x.row x.col;rw[HF.out] at h;exact Calls.zA1 (h _)))));refine qmE ?_;intro lq nq)
     all_goals go_wp2;all_goals exact⟨⟨j+1,by omega,by go_num,hw.out.trans ((show Below wr.heap.size wr _ from bel).mono hg),hf.out⟩,by simp[intOf];omega⟩
    ·obtain rfl:j=n:=by omega
     rw[List.drop_of_length_le (by have:=HL.out;omega)] at hR;have hz:R=true:=by rw[<- hR];unfold zAm;rfl
     have hf:=zh hz;clear hR hz HE;go_wp2;go_returns;exact⟨by rw[hf.out];rfl,HB.out⟩
    all_goals
     have hf:=zh (show R=false from by rw[<- he];rfl);clear he
     go_upto_region 8 with fail
     (refine qmI ?_;(repeat(go_big_quiet_step (first|(go_at_call 31;have h:=addr_In t l b r x.row x.col;rw[HI.out] at h;exact Calls.zA1 (h _))|(go_at_call 29;have h:=zB1 x.v;rw[HV.out] at h;exact Calls.zA1 (h _))|(go_at_call 32;have h:=addr_Before y.row y.col x.row x.col;rw[HF.out] at h;exact Calls.zA1 (h _)))));refine qmE ?_;intro lq nq)
     all_goals go_wp2;all_goals(go_returns;exact⟨by rw[hf.out];rfl,HB.out.trans ((show Below wr.heap.size wr _ from bel).mono hD)⟩)
  all_goals
   (first|go_enter func147,ntmps147|go_enter func150,ntmps150|go_enter func154,ntmps154|go_enter func12,ntmps12)
   go_wp2_with(go_at_call 30;refine(addr_MayRect t l b r _).mono ?_;rw[H1.out];rintro e w1 ⟨rfl,hb⟩;obtain⟨l1,n1,rfl⟩:=zA0 hb;clear hb)
   all_goals(go_returns;exact rb_)
theorem may_any (F:Nat) (hF:F=147∨F=150∨F=154∨F=12) (a:Arg) (es:List En) (w:World) (hE:zAW w a es) (hn:a.n<=1000000000000):Calls prog F #[a.agg] w fun e w'=>e=.returned (.bool (argOk a es))/\Below w.heap.size w w':=by
 cases hm:a.many
 ·exact may_one F hF a es hm hE.1 w
 ·exact may_many F hF a es hm w hE hn
theorem nums_may (a:Arg) (es:List En) (w:World) (hE:zAW w a es) (hn:a.n<=1000000000000):Rt 147 #[a.agg] w (.bool (argOk a es)):=may_any _ (by simp) a es w hE hn
end Go.Proofs.YtnccknhbplaieaaGreatDoor
