/- Parts. -/
import Derived.Test.YtnccknhbplaieaaGreatDoorC11
import Derived.Test.YtnccknhbplaieaaGreatDoorC18
import Derived.Shelf.Spec.BitsCarry
set_option linter.all false
set_option maxRecDepth 100000
set_option maxHeartbeats 4000000
namespace Go.Proofs.YtnccknhbplaieaaGreatDoor
open Go Go.RowKit Go.Proofs.Tryz
open Go.World renaming block_lt_of_cell?->Q3,ownsRow_nil->QE
open _root_.List renaming getElem?_eq_getElem->Q4,take_of_length_le->Q5,mem_of_getElem?->Q7,getElem?_eq_some_iff->QB,getElem?_map->QC,length_map->QD,contains_eq_mem->QH,length_append->QI,find?_append->QJ,not_mem_nil->QL,all_eq_true->QM,take_append_drop->QO,mem_cons->QP,mem_map->QQ,range->QS
open _root_.Nat renaming add_assoc->Q8,zero_le->Q9,add_zero->QA,le_of_eq->QR,gcd->QT
open Go.IntKind renaming wrap_i64->QF,i64->QG
open _root_.Bool renaming and_eq_true->QK
open _root_.Int renaming eq_ofNat_of_zero_le->QN
theorem arg_at {w:World} {B n:Nat} {A:Option Addr} {al:List Arg} (hr:Reads w B 11 A n (zAY al)) {j:Nat} {a:Arg} (ha:al[j]? =some a):∃ b o,A=some ⟨b,o,none⟩/\b<w.heap.size/\j<n /\
  w.cell? ⟨b,o+j*11,none⟩=some (.bool a.many)/\w.cell? ⟨b,o+j*11+1,none⟩=some (.int .i64 a.val.tag)/\w.cell? ⟨b,o+j*11+2,none⟩=some (.int .i64 a.val.num)/\w.cell? ⟨b,o+j*11+3,none⟩=some (.string a.val.str) /\
  w.cell? ⟨b,o+j*11+4,none⟩=some (.bool a.val.is)/\w.cell? ⟨b,o+j*11+5,none⟩=some (.int .i64 a.val.code)/\w.cell? ⟨b,o+j*11+6,none⟩=some (.int .i64 a.top)/\w.cell? ⟨b,o+j*11+7,none⟩=some (.int .i64 a.left) /\
  w.cell? ⟨b,o+j*11+8,none⟩=some (.int .i64 a.bottom)/\w.cell? ⟨b,o+j*11+9,none⟩=some (.int .i64 a.right)/\w.cell? ⟨b,o+j*11+10,none⟩=some (.slice a.ents a.n a.c):=by
 have hb:al.length=n:=by
  have:=hr.1;rw[zAN] at this;omega
 have hj:j<n:=by rw[<- hb];exact(QB.1 ha).1
 obtain⟨b,o,rfl,_,hc⟩:=hr.2 (by omega);have h:∀ i u,a.cells[i]? =some u->w.cell? ⟨b,o+j*11+i,none⟩=some u:=fun i u hu=>by
  rw[Q8];exact hc _ u (zAP al j a ha i u hu)
 refine⟨b,o,rfl,Q3 w _ (h 0 _ rfl),hj,h 0 _ rfl,h 1 _ rfl,h 2 _ rfl,h 3 _ rfl,h 4 _ rfl,h 5 _ rfl,h 6 _ rfl,h 7 _ rfl,h 8 _ rfl,h 9 _ rfl,h 10 _ rfl⟩
theorem val_at {w:World} {B n:Nat} {A:Option Addr} {vs:List V} (hr:Reads w B 5 A n (flat vs)) {j:Nat} {v:V} (ha:vs[j]? =some v):∃ b o,A=some ⟨b,o,none⟩/\b<w.heap.size/\j<n /\
  w.cell? ⟨b,o+j*5,none⟩=some (.int .i64 v.tag)/\w.cell? ⟨b,o+j*5+1,none⟩=some (.int .i64 v.num)/\w.cell? ⟨b,o+j*5+2,none⟩=some (.string v.str)/\w.cell? ⟨b,o+j*5+3,none⟩=some (.bool v.is)/\w.cell? ⟨b,o+j*5+4,none⟩=some (.int .i64 v.code):=by
 have hb:vs.length=n:=by
  have:=hr.1;rw[flat_length] at this;omega
 have hj:j<n:=by rw[<- hb];exact(QB.1 ha).1
 obtain⟨b,o,rfl,_,hc⟩:=hr.2 (by omega);have h:∀ i u,v.cells[i]? =some u->w.cell? ⟨b,o+j*5+i,none⟩=some u:=fun i u hu=>by
  rw[Q8];exact hc _ u (flat_at vs j v ha i u hu)
 refine⟨b,o,rfl,Q3 w _ (h 0 _ rfl),hj,h 0 _ rfl,h 1 _ rfl,h 2 _ rfl,h 3 _ rfl,h 4 _ rfl⟩
theorem ent_at {w:World} {a:Arg} {es:List En} (hE:zAW w a es) {j:Nat} {e:En} (he:es[j]? =some e):∃ b o,a.ents=some ⟨b,o,none⟩/\b<w.heap.size/\j<a.n /\
  w.cell? ⟨b,o+j*7,none⟩=some (.int .i64 e.row)/\w.cell? ⟨b,o+j*7+1,none⟩=some (.int .i64 e.col)/\w.cell? ⟨b,o+j*7+2,none⟩=some (.int .i64 e.v.tag)/\w.cell? ⟨b,o+j*7+3,none⟩=some (.int .i64 e.v.num)/\w.cell? ⟨b,o+j*7+4,none⟩=some (.string e.v.str)/\w.cell? ⟨b,o+j*7+5,none⟩=some (.bool e.v.is)/\w.cell? ⟨b,o+j*7+6,none⟩=some (.int .i64 e.v.code):=by
 have hj:j<a.n:=by rw[<- hE.1];exact(QB.1 he).1
 obtain⟨b,o,h1,_,hc⟩:=hE.2.2 (by omega);have h:∀ i u,e.cells[i]? =some u->w.cell? ⟨b,o+j*7+i,none⟩=some u:=fun i u hu=>by
  rw[Q8];exact hc _ u (flatC_at En.cells 7 (fun _=>rfl) es j e he i u hu)
 refine⟨b,o,h1,Q3 w _ (h 0 _ rfl),hj,h 0 _ rfl,h 1 _ rfl,h 2 _ rfl,h 3 _ rfl,h 4 _ rfl,h 5 _ rfl,h 6 _ rfl⟩
theorem int_at {w:World} {B n:Nat} {A:Option Addr} {l:List Int} (hr:Reads w B 1 A n (I l)) {j:Nat} {x:Int} (hx:l[j]? =some x):∃ b o,A=some ⟨b,o,none⟩/\b<w.heap.size/\j<n/\w.cell? ⟨b,o+j,none⟩=some (.int .i64 x):=by
 have ha:l.length=n:=by
  have:=hr.1
  simpa [I] using this
 have hj:j<n:=by rw[<- ha];exact(QB.1 hx).1
 obtain⟨b,o,rfl,_,hc⟩:=hr.2 (by omega);have h:=hc j (.int .i64 x) (by unfold I;rw[QC,hx];rfl);exact⟨b,o,rfl,Q3 w _ h,hj,h⟩
theorem gath_one {ops:Array Oper} {rest:List Oper} {o:Oper} {a:Act} {w:World} {Q:Exit->Act->World->Prop} (hgd:o.guard=none) (s x:Operand) (ts e:TypeId) (size bytes:Nat) (z:Value)
  (ho:o.op=.call { callee:=.builtin .append,args:=#[s,x],argTypes:=#[ts,ts] }) (hu:prog.underlying ts=some (.slice e)) (hinfo:(prog.info? e).map (fun i=>(i.zero,i.size,i.bytes))=some (some z,size,bytes)) (hsz:0<size) (hzl:(z.cells.size==size)=true) (hby:bytes<=64)
  {W w0 w1:World} {v vx:Value} {n:Nat} {xs:List Value} (ys:Array Value) (hys:ys.size=size) (h1:∀ u∈ys.toList,u.oneCell'=true) (hs:a.eval s=v) (hG:zAA W w0 e size v n xs) (hb:Below w0.heap.size w0 w1) (hw:w=w1.alloc (.cells ys e)) (hvx:vx=.slice (some ⟨w1.heap.size,0,none⟩) 1 1) (hx:a.eval x=vx) (hn:n<=1000000000000)
  (h:∀ v' w',zAA W w' e size v' (n+1) (xs++ys.toList)->wpList prog ops Q rest (a.put o.dst v') w'):wpList prog ops Q (o::rest) a w:=by
 obtain⟨i0,hi,hc,hd,he⟩:=info_parts hinfo;subst hw;have s0:=hG.1.size;have s1:=hb.size;have ha:Below w0.heap.size w0 (w1.alloc (.cells ys e)):=zBb hb _ s1;refine wpList_append_own _ hgd s x ts ho W.heap.size e i0 z size bytes hu hi hc hd he (by simpa using hzl) hsz v n xs hs (own_below hG.2 ha) ⟨w1.heap.size,0,none⟩ 1 1 ys.toList (hx.trans hvx) (by simp[hys]) (zAO rfl) h1 (by simp only[maxLen];omega) ?_ (by simp;omega) (fun v' w' h2 h3 _=>h v' w' (zAA.step hG ha h2 h3));have:(n+1)*bytes<=1000000000001*64:=Nat.mul_le_mul (by omega) hby;omega
theorem zA8 {w:World} {base e n:Nat} {v:Value} {xs:List Value} (h:w.ownsRow base e 1 v n xs):∃ A c,v=.slice A n c/\n<=c/\(0<n->∃ g,A=some ⟨g,0,none⟩/\g<w.heap.size/\∀ j u,xs[j]? =some u->w.cell? ⟨g,j,none⟩=some u):=by
 rcases Nat.eq_zero_or_pos n with h0|h0
 ·rcases h.2 with ⟨h1,h2⟩|⟨g,cap,cur,e1,hg,hh,h3,h4,_⟩
  ·exact⟨none,0,by rw[h1,h2],by omega,fun h=>by omega⟩
  ·exact⟨_,cap,e1,h3,fun h=>by omega⟩
 ·obtain⟨g,c,e1,ha,_,_,hg,hc,_⟩:=stk_form h h0;exact⟨_,c,e1,ha,fun _=>⟨g,rfl,hg,hc⟩⟩
open Go.Lib renaming hid->zh
def zBC (p:Arg×List En):List V:=(if p.1.many then [] else [p.1.val])++p.2.map En.v
def zA2 (l:List (Arg×List En)):List V:=l.flatMap zBC
theorem itemsG_snoc {l:List (Arg×List En)} {j:Nat} {p:Arg×List En} (h:l[j]? =some p):zA2 (l.take (j+1))=zA2 (l.take j)++zBC p:=by
 rw[zAJ h];simp[zA2]
theorem itemsG_le {l:List (Arg×List En)} {j:Nat} {p:Arg×List En} (h:l[j]? =some p):(zA2 (l.take j)).length+(zBC p).length<=(zA2 l).length:=by
 rw[<- QI,<-itemsG_snoc h]
 conv=>rhs;rw[<- QO (j+1) l]
 unfold zA2;rw[List.flatMap_append,QI];omega
theorem aggs_items (pl:List (Arg×List En)) (A:Option Addr) (n c B:Nat) (w:World) (hr:Reads w B 11 A n (zAY (pl.map Prod.fst))) (hE:∀ p∈pl,zAW w p.1 p.2) (hT:(zA2 pl).length<=1000000000000) (hm:n<=1000000000000) (hnn:∀ p∈pl,p.1.n<=1000000000000) :
  Calls prog 299 #[.slice A n c] w fun e w'=>∃ v,e=.returned v/\w'.ownsRow w.heap.size 29 5 v (zA2 pl).length (flat (zA2 pl))/\Below w.heap.size w w':=by
 have hs:pl.length=n:=by
  have:=hr.1;rw[zAN,QD] at this;omega
 have HR:=zh hr;have HE:=zh hE;have HT:=zh hT;have hH:=zh hs;have hI:=zh hnn;clear hr hE hT hnn;obtain⟨i0,hi,ht,hv,hw⟩:=info_parts info_V;go_enter func299,ntmps299;go_wp2
 go_loopw [10,3] (fun t v wr=>∃ j:Nat,j<=n/\t=.int .i64 j/\zAA w wr 29 5 v (zA2 (pl.take j)).length (flat (zA2 (pl.take j)))) (fun t _ _=>n-(intOf t).toNat)
 case atStart=>exact⟨0,Q9 _,rfl,Below.refl _ _,QE _ _ _ _⟩
 case round =>
  obtain⟨j,hj,rfl,hG⟩:=hrel;by_cases hlt:j<n
  ·obtain⟨p,hp⟩:∃ p,pl[j]? =some p:=⟨_,Q4 (show j<pl.length by omega)⟩
   obtain⟨bk,off,rfl,_,hc⟩:=HR.out.2 (by omega);have hD:=hG.1.size;have hb:∀ i u,p.1.cells[i]? =some u->wr.cell? ⟨bk,off+(j*11+i),none⟩=some u:=fun i u hu=>by
    have h1:=hc _ u (zAP (pl.map Prod.fst) j p.1 (by rw[QC,hp];rfl) i u hu);exact(hG.1.cell (p:=⟨bk,_,none⟩) (Q3 w _ h1)).trans h1
   obtain⟨c0,c1,c2,c3,c4,c5,c6,c7,c8,c9,c10⟩:=tkB hb;simp only[<- Q8,QA] at c0 c1 c2 c3 c4 c5 c6 c7 c8 c9 c10;have hbr:=cltK c0;have hC:=itemsG_le hp;have hh:=itemsG_snoc hp;have hL:=hI.out p (Q7 hp);have hl:=zh (HE.out p (Q7 hp));have HG:=zh hG;clear hb hc hp hG;obtain⟨WO,hJ⟩:∃ WO,WO=wr:=⟨_,rfl⟩
   subst hJ;obtain⟨⟨many,val,top,left,bottom,right,ents,m,cc⟩,es⟩:=p;simp only at c0 c1 c2 c3 c4 c5 c6 c7 c8 c9 c10 hL;have hK:es.length=m:=hl.out.1;have hy:=zh (show Reads w w.heap.size 7 ents m (flatC En.cells es) from hl.out.2);clear hl;obtain⟨r,hr⟩:∃ r,r=zA2 (pl.take j):=⟨_,rfl⟩
   rw[<- hr] at hC hh HG;clear hr;cases many
   ·have hA:(zBC (⟨false,val,top,left,bottom,right,ents,m,cc⟩,es)).length=1+m:=by simp[zBC];omega
    have hN:r.length+1+m<=1000000000000:=by have:=HT.out;omega
    go_wp2_with(at_builtin;refine wpList_append_own _ rfl _ _ 106 rfl w.heap.size 29 i0 _ 5 48 underlying106 hi ht hv hw rfl (by decide) _ _ _ rfl (own_below HG.out.2 bel) _ 1 1 val.cells rfl rfl ?_ ?_ ?_ ?_ ?_ ?_)
    ·first|exact fun i u hu=>zAO (by simp) i u hu|exact fun i u hu=>hu
    ·exact cells_one _
    ·simp only[maxLen];omega
    ·omega
    ·have h1:=HG.out.1.size;simp at h1 ⊢;omega
    ·intro v' w3 hd ha _;have R:=zAA.step HG.out bel (show w3.ownsRow w.heap.size 29 5 v' (r.length+1) (flat (r)++val.cells) from by simpa using hd) ha;rw[show flat (r)++val.cells=flat (r++[val]) by rw[zBr];simp[flat],show r.length+1=(r++[val]).length by simp] at R;obtain⟨q,hq⟩:∃ q,q=r++[val]:=⟨_,rfl⟩
     rw[<- hq] at R;have hF:=zh R;have HQ:=zh (show q++es.map En.v=zA2 (pl.take (j+1)) by rw[hh,hq];simp[zBC]);have hn:=zh (show q.length+m<=1000000000000 by rw[hq];simp;omega);have e10:w3.cell? ⟨WO.heap.size,10,none⟩=some (.slice ents m cc):=(World.cell?_of_block (a:=⟨WO.heap.size,10,none⟩) (ha.block _ (by simp;omega) (fun e=>Nat.lt_irrefl _ (HG.out.2.lt _ e.symm).2))).trans (by go_simp);have l10:=Q3 w3 _ e10;clear hd ha R hq HG hh hC hA hN c0 c1 c2 c3 c4 c5 c6 c7 c8 c9 c10;go_wp2
     go_loopw [25,3] (fun t v wr=>∃ k:Nat,∃ z:List V,k<=m/\t=.int .i64 k/\z=q++(es.take k).map En.v/\zAA w wr 29 5 v z.length (flat z)) (fun t _ _=>m-(intOf t).toNat)
     case atStart=>exact⟨0,q,Q9 _,rfl,by simp,hF.out⟩
     case round =>
      obtain⟨k,z,hk,rfl,hz,hf⟩:=hrel;have he:=zh hf;have HZ:=zh hz;clear hf hz;by_cases hkl:k<m
      ·obtain⟨x,hx⟩:∃ x,es[k]? =some x:=⟨_,Q4 (show k<es.length by omega)⟩
       obtain⟨bk,off,rfl,_,hc⟩:=hy.out.2 (by omega);have hD:=he.out.1.size;have hb:∀ i u,x.cells[i]? =some u->wr.cell? ⟨bk,off+(k*7+i),none⟩=some u:=fun i u hu=>by
        have h1:=hc _ u (flatC_at En.cells 7 (fun _=>rfl) es k x hx i u hu);exact(he.out.1.cell (p:=⟨bk,_,none⟩) (Q3 w _ h1)).trans h1
       obtain⟨e0,e1,e2,e3,e4,e5,e6⟩:=tk7 hb;simp only[<- Q8,QA] at e0 e1 e2 e3 e4 e5 e6;have ho:=cltK e0;have HX:=zh (show z++[x.v]=q++(es.take (k+1)).map En.v by rw[HZ.out,zAJ hx];simp);have hM:z.length+1<=1000000000000:=by have:=hn.out;rw[HZ.out];simp;omega
       clear hb hc hx;go_wp2_with(at_builtin;refine wpList_append_own _ rfl _ _ 106 rfl w.heap.size 29 i0 _ 5 48 underlying106 hi ht hv hw rfl (by decide) _ _ _ rfl (own_below he.out.2 bel) _ 1 1 x.v.cells rfl rfl ?_ ?_ ?_ ?_ ?_ ?_)
       ·first|exact fun i u hu=>zAO (by simp) i u hu|exact fun i u hu=>hu
       ·exact cells_one _
       ·simp only[maxLen];omega
       ·omega
       ·have h1:=he.out.1.size;simp at h1 ⊢;omega
       ·intro v' w3 hd ha _;have R:=zAA.step he.out bel (show w3.ownsRow w.heap.size 29 5 v' (z.length+1) (flat (z)++x.v.cells) from by simpa using hd) ha;rw[show flat (z)++x.v.cells=flat (z++[x.v]) by rw[zBr];simp[flat],show z.length+1=(z++[x.v]).length by simp] at R;have hg:=zh R;clear hd ha R he e0 e1 e2 e3 e4 e5 e6;go_wp2;go_roundw;case rel=>exact⟨k+1,_,by omega,by go_num,HX.out,hg.out⟩
        case measure=>simp[intOf];omega
      ·obtain rfl:k=m:=by omega
       have hz:=HZ.out;rw[Q5 (show es.length<=k by omega),HQ.out] at hz;have hf:=he.out;rw[hz] at hf;have hg:=zh hf;clear hf he hz HZ;go_wp2;go_roundw;case rel=>exact⟨j+1,by omega,by go_num,hg.out⟩
       case measure=>simp[intOf];omega
   ·have hA:(zBC (⟨true,val,top,left,bottom,right,ents,m,cc⟩,es)).length=m:=by simp[zBC];omega
    obtain⟨q,hq⟩:∃ q,q=r:=⟨_,rfl⟩
    have HQ:=zh (show q++es.map En.v=zA2 (pl.take (j+1)) by rw[hh,hq];simp[zBC]);have hn:=zh (show q.length+m<=1000000000000 by have:=HT.out;rw[hq];omega);rw[<- hq] at HG;clear hq;go_wp2
    go_loopw [25,3] (fun t v wr=>∃ k:Nat,∃ z:List V,k<=m/\t=.int .i64 k/\z=q++(es.take k).map En.v/\zAA w wr 29 5 v z.length (flat z)) (fun t _ _=>m-(intOf t).toNat)
    case atStart=>exact⟨0,q,Q9 _,rfl,by simp,HG.out.1.trans ((show Below WO.heap.size WO _ from bel).mono HG.out.1.size),own_below HG.out.2 bel⟩
    case round =>
     obtain⟨k,z,hk,rfl,hz,hf⟩:=hrel;have he:=zh hf;have HZ:=zh hz;clear hf hz;by_cases hkl:k<m
     ·obtain⟨x,hx⟩:∃ x,es[k]? =some x:=⟨_,Q4 (show k<es.length by omega)⟩
      obtain⟨bk,off,rfl,_,hc⟩:=hy.out.2 (by omega);have hD:=he.out.1.size;have hb:∀ i u,x.cells[i]? =some u->wr.cell? ⟨bk,off+(k*7+i),none⟩=some u:=fun i u hu=>by
       have h1:=hc _ u (flatC_at En.cells 7 (fun _=>rfl) es k x hx i u hu);exact(he.out.1.cell (p:=⟨bk,_,none⟩) (Q3 w _ h1)).trans h1
      obtain⟨e0,e1,e2,e3,e4,e5,e6⟩:=tk7 hb;simp only[<- Q8,QA] at e0 e1 e2 e3 e4 e5 e6;have ho:=cltK e0;have HX:=zh (show z++[x.v]=q++(es.take (k+1)).map En.v by rw[HZ.out,zAJ hx];simp);have hM:z.length+1<=1000000000000:=by have:=hn.out;rw[HZ.out];simp;omega
      clear hb hc hx;go_wp2_with(at_builtin;refine wpList_append_own _ rfl _ _ 106 rfl w.heap.size 29 i0 _ 5 48 underlying106 hi ht hv hw rfl (by decide) _ _ _ rfl (own_below he.out.2 bel) _ 1 1 x.v.cells rfl rfl ?_ ?_ ?_ ?_ ?_ ?_)
      ·first|exact fun i u hu=>zAO (by simp) i u hu|exact fun i u hu=>hu
      ·exact cells_one _
      ·simp only[maxLen];omega
      ·omega
      ·have h1:=he.out.1.size;simp at h1 ⊢;omega
      ·intro v' w3 hd ha _;have R:=zAA.step he.out bel (show w3.ownsRow w.heap.size 29 5 v' (z.length+1) (flat (z)++x.v.cells) from by simpa using hd) ha;rw[show flat (z)++x.v.cells=flat (z++[x.v]) by rw[zBr];simp[flat],show z.length+1=(z++[x.v]).length by simp] at R;have hg:=zh R;clear hd ha R he e0 e1 e2 e3 e4 e5 e6;go_wp2;go_roundw;case rel=>exact⟨k+1,_,by omega,by go_num,HX.out,hg.out⟩
       case measure=>simp[intOf];omega
     ·obtain rfl:k=m:=by omega
      have hz:=HZ.out;rw[Q5 (show es.length<=k by omega),HQ.out] at hz;have hf:=he.out;rw[hz] at hf;have hg:=zh hf;clear hf he hz HZ;go_wp2;go_roundw;case rel=>exact⟨j+1,by omega,by go_num,hg.out⟩
      case measure=>simp[intOf];omega
  ·obtain rfl:j=n:=by omega
   have hG:=hG;rw[Q5 (by omega)] at hG;obtain⟨hB,hO⟩:=hG;have HO:=zh hO;have HB:=zh hB;clear hO hB;go_wp2;all_goals(go_returns;exact⟨_,rfl,HO.out,HB.out⟩)
abbrev eObj (x:En):Obj:=.cells #[.int .i64 x.row,.int .i64 x.col,.int .i64 x.v.tag,.int .i64 x.v.num,.string x.v.str,.bool x.v.is,.int .i64 x.v.code] 76
theorem zAB {w:World} {base e size n:Nat} {v:Value} {xs:List Value} (h:w.ownsRow base e size v n xs):∃ A c,v=.slice A n c:=by
 rcases h.2 with ⟨h1,h2⟩|⟨g,cap,cur,e1,_⟩
 ·subst h2;exact⟨_,_,h1⟩
 ·exact⟨_,_,e1⟩
theorem asNum_63 (v:V) (h:Is64 v.num):In63 (zA5 v).1:=by
 unfold Is64 at h;unfold In63 zA5;by_cases hm:mayG v=false
 ·rw[if_pos hm];exact⟨by simp,by simp⟩
 ·rw[if_neg hm];split
  ·exact⟨by simp,by simp⟩
  ·split
   ·exact⟨by simp,by simp⟩
   ·split
    ·dsimp only[vG];split<;>exact⟨by decide,by decide⟩
    ·rename_i h4 h2 h3;have ha:mayG v=true:=by simpa using hm
     dsimp only[vG];unfold mayG at ha;simp only[QK,decide_eq_true_eq] at ha;by_cases h1:v.tag=1
     ·rw[if_pos h1] at ha;have h5:v.num≠minI:=by simpa using ha.2
      unfold minI at h5;omega
     ·have h5:=ha.1.2;simp only[eqB,decide_eq_true_eq] at h5;have h6:=congrArg V.num h5;simp only[bareG,if_neg h1] at h6;omega
def badN (v:V):Bool:=(zA5 v).2 != 0
def isF (v:V):Bool:=v.tag==4
def numsVals (s:ByteArray) (vs:List V):V:=match vs.find? isF with
 | some v=>v
 | none=>match vs.find? badN with
   | some v=>errG (zA5 v).2
   | none=>numDo s (vs.map fun v=>(zA5 v).1)
def zBI (s:ByteArray) (al:List Arg) (ok:Nat->Bool):V:=if (QS al.length).all ok then if zBB s (al.map Arg.many) then numsVals s (al.map Arg.val) else errG 8 else errG 8
theorem all_no {n:Nat} {ok:Nat->Bool} {j:Nat} (hj:j<n) (h:ok j=false):(QS n).all ok=false:=by
 rw[List.all_eq_false];exact⟨j,List.mem_range.2 hj,by simp[h]⟩
theorem find_no {α:Type} {f:α->Bool} {l:List α} {j:Nat} {a:α} (h:l[j]? =some a) (hn:(l.take j).find? f=none) (hf:f a=false):(l.take (j+1)).find? f=none:=by
 rw[take1 h,QJ,hn];simp[hf]
theorem find_yes {α:Type} {f:α->Bool} {l:List α} {j:Nat} {a:α} (h:l[j]? =some a) (hn:(l.take j).find? f=none) (hf:f a=true):l.find? f=some a:=by
 have h1:l=l.take (j+1)++l.drop (j+1):=(QO _ _).symm;rw[h1,QJ,take1 h,QJ,hn];simp[hf]
theorem info_I:(prog.info? 2).map (fun i=>(i.zero,i.size,i.bytes))=some (some (.int .i64 0),1,8):=by kernel_rfl
theorem takes_len {s:ByteArray} {xs:List Bool} (h:zBB s xs=true):∃ x y,zAd s=some (x,y)/\between x y xs.length=true/\1<=xs.length/\xs.length<=16:=by
 unfold zBB at h;cases e:zAd s with
 | none=>rw[e] at h;cases h
 | some p =>
   obtain⟨x,y⟩:=p;rw[e] at h;simp only[QK] at h;refine⟨x,y,rfl,h.1,?_⟩;have h1:=h.1;simp only[between,QK,decide_eq_true_eq] at h1;have h2:1<=x/\y<=16:=by
    unfold zAd at e;by_cases eODD:(⟨#[79,68,68]⟩:ByteArray)=s
    rw[if_pos eODD] at e
    rotate_left
    rw[if_neg eODD] at e;by_cases eCLAMP:(⟨#[67,76,65,77,80]⟩:ByteArray)=s
    rw[if_pos eCLAMP] at e
    rotate_left
    rw[if_neg eCLAMP] at e;by_cases eFACT:(⟨#[70,65,67,84]⟩:ByteArray)=s
    rw[if_pos eFACT] at e
    rotate_left
    rw[if_neg eFACT] at e;by_cases eLCM:(⟨#[76,67,77]⟩:ByteArray)=s
    rw[if_pos eLCM] at e
    rotate_left
    rw[if_neg eLCM] at e;by_cases eGCD:(⟨#[71,67,68]⟩:ByteArray)=s
    rw[if_pos eGCD] at e
    rotate_left
    rw[if_neg eGCD] at e;by_cases eSQRT:(⟨#[83,81,82,84]⟩:ByteArray)=s
    rw[if_pos eSQRT] at e
    rotate_left
    rw[if_neg eSQRT] at e;by_cases ePOWER:(⟨#[80,79,87,69,82]⟩:ByteArray)=s
    rw[if_pos ePOWER] at e
    rotate_left
    rw[if_neg ePOWER] at e;by_cases eQUOT:(⟨#[81,85,79,84]⟩:ByteArray)=s
    rw[if_pos eQUOT] at e
    rotate_left
    rw[if_neg eQUOT] at e;by_cases eMOD:(⟨#[77,79,68]⟩:ByteArray)=s
    rw[if_pos eMOD] at e
    rotate_left
    rw[if_neg eMOD] at e;by_cases eCEIL:(⟨#[67,69,73,76]⟩:ByteArray)=s
    rw[if_pos eCEIL] at e
    rotate_left
    rw[if_neg eCEIL] at e;by_cases eFLOOR:(⟨#[70,76,79,79,82]⟩:ByteArray)=s
    rw[if_pos eFLOOR] at e
    rotate_left
    rw[if_neg eFLOOR] at e;by_cases eROUND:(⟨#[82,79,85,78,68]⟩:ByteArray)=s
    rw[if_pos eROUND] at e
    rotate_left
    rw[if_neg eROUND] at e;by_cases eTRUNC:(⟨#[84,82,85,78,67]⟩:ByteArray)=s
    rw[if_pos eTRUNC] at e
    rotate_left
    rw[if_neg eTRUNC] at e;by_cases eINT:(⟨#[73,78,84]⟩:ByteArray)=s
    rw[if_pos eINT] at e
    rotate_left
    rw[if_neg eINT] at e;by_cases eSIGN:(⟨#[83,73,71,78]⟩:ByteArray)=s
    rw[if_pos eSIGN] at e
    rotate_left
    rw[if_neg eSIGN] at e;by_cases eABS:(⟨#[65,66,83]⟩:ByteArray)=s
    rw[if_pos eABS] at e
    rotate_left
    ·rw[if_neg eABS] at e;cases e
    all_goals
     cases e;exact⟨by decide,by decide⟩
   omega
theorem nums_Call (s:ByteArray) (al:List Arg) (A:Option Addr) (n c B:Nat) (tx:Int) (w:World) (hr:Reads w B 11 A n (zAY al)) (hm:n<=1000000000000) (h64:∀ a∈al,Is64 a.val.num) (ok:Nat->Bool)
  (hok:∀ j a,al[j]? =some a->∀ W,Below w.heap.size w W->Rt 147 #[a.agg] W (.bool (ok j))) :
  Rt 76 #[.string s,.slice A n c,.int .i64 tx] w (vG (zBI s al ok)):=by
 have hL:al.length=n:=by
  have:=hr.1;rw[zAN] at this;omega
 obtain⟨bs,hS⟩:∃ bs,bs=(al.map Arg.many).map Value.bool:=⟨_,rfl⟩
 have hbl:bs.length=n:=by rw[hS];simp[hL]
 have Hv:∀ (j:Nat) (x:Arg),al[j]? =some x->bs[j]? =some (.bool x.many):=fun j x hx=>by rw[hS,QC,QC,hx];rfl
 obtain⟨R,hR⟩:=lt_ (zBI s al ok);rw[hR];have Ho:=zh Hv;have HI:=zh hS;have HR:=zh hr;have Hr:=zh hok;have Ht:=zh hR;have HE:=zh h64;have hh:=zh hL;clear Hv hS hr hok hR h64;obtain⟨i0,hi,HS,HU,HV⟩:=info_parts info_B;go_enter func76,ntmps76;go_wp2
 go_loopw [21,7] (fun t v wr=>∃ j:Nat,j<=n/\t=.int .i64 j/\(∀ k,k<j->ok k=true)/\zAA (w.alloc zeroV) wr 4 1 v j (bs.take j)) (fun t _ _=>n-(intOf t).toNat)
 case atStart=>exact⟨0,Q9 _,rfl,fun k hk=>by omega,Below.refl _ _,QE _ _ _ _⟩
 case round =>
  obtain⟨j,hj,rfl,hp,hG⟩:=hrel;have hq:Below w.heap.size w (w.alloc zeroV):=bel;have hs:Below w.heap.size w wr:=hq.trans (hG.1.mono hq.size);have hU:=hs.size;have hC:=zh hs;have hA:=zh hp;have HG:=zh hG;clear hp hG hs hq;by_cases hlt:j<n
  ·obtain⟨a,ha⟩:∃ a,al[j]? =some a:=⟨_,Q4 (show j<al.length by omega)⟩
   obtain⟨bk,off,rfl,_,hc⟩:=HR.out.2 (by omega);have hd:∀ i u,a.cells[i]? =some u->wr.cell? ⟨bk,off+(j*11+i),none⟩=some u:=fun i u hu=>by
    have h1:=hc _ u (zAP al j a ha i u hu);exact(hC.out.cell (p:=⟨bk,_,none⟩) (Q3 w _ h1)).trans h1
   obtain⟨c0,c1,c2,c3,c4,c5,c6,c7,c8,c9,c10⟩:=tkB hd;simp only[<- Q8,QA] at c0 c1 c2 c3 c4 c5 c6 c7 c8 c9 c10;have hJ:=cltK c0;have hI:=zh (fun i u (hu:a.cells[i]? =some u)=>hc _ u (zAP al j a ha i u hu));clear hd hc;have HF:=zh ha;have hE:=Hr.out j a ha;obtain⟨z,hz⟩:=lt_ (ok j);rw[hz] at hE;have Hq:=zh (fun W (hB:Below wr.heap.size wr W)=>hE W (hC.out.trans (hB.mono hU)));clear hE ha;cases z
   ·have ho:=zh (show R=errG 8 by rw[<- Ht.out];unfold zBI;rw[hh.out,all_no hlt hz];rfl);clear hz;obtain⟨l0,q0,hF⟩:=zA0 HG.out.1;subst hF;unfold zeroV at *;clear c0 c1 c2 c3 c4 c5 c6 c7 c8 c9 c10 hJ;obtain⟨c0,c1,c2,c3,c4,c5,c6,c7,c8,c9,c10⟩:=tkB hI.out;simp only[<- Q8,QA] at c0 c1 c2 c3 c4 c5 c6 c7 c8 c9 c10;have Hu:=cltK c0;go_wp2_with(first|(go_at_call 147;refine mB (Hq.out _ bel) ?_;intro l2 q2)|(go_at_call 13;refine mB (zA3 _ _) ?_;intro l3 q3))
    all_goals(go_returns;exact⟨by rw[ho.out],bel⟩)
   ·have HZ:=zh hz;clear hz;go_wp2_with(first|(go_at_call 147;refine mB (Hq.out _ bel) ?_;intro l2 q2)|(at_builtin;refine wpList_append_own _ rfl _ _ 61 rfl (w.alloc zeroV).heap.size 4 i0 _ 1 1 underlying61 hi HS HU HV rfl (by decide) _ _ _ rfl (own_below HG.out.2 bel) _ 1 1 [.bool a.many] rfl rfl ?_ ?_ ?_ ?_ ?_ ?_))
    ·exact fun i u hu=>zAO (by simp) i u hu
    ·intro u hu;simp only[QP,QL,or_false] at hu;subst hu;rfl
    ·simp only[maxLen];omega
    ·omega
    ·have h1:=HG.out.1.size;simp at h1 ⊢;omega
    ·intro v' w3 hg he _;have R:=zAA.step HG.out bel (show w3.ownsRow (w.alloc zeroV).heap.size 4 1 v' (j+1) (bs.take j++[.bool a.many]) from by simpa using hg) he;rw[<- zAJ (Ho.out j a HF.out)] at R;have hW:=zh R;clear hg he R HG c0 c1 c2 c3 c4 c5 c6 c7 c8 c9 c10;go_wp2;go_roundw;case rel=>exact⟨j+1,by omega,by go_num,fun k hk=>by (by_cases e:k=j;(subst e;exact HZ.out);exact hA.out k (by omega)),hW.out⟩
     case measure=>simp[intOf];omega
  ·obtain rfl:j=n:=by omega
   have hG:=HG.out;rw[Q5 (by omega)] at hG;obtain⟨hB,hO⟩:=hG;obtain⟨xsB,hV⟩:∃ xsB,xsB=al.map Arg.many:=⟨_,rfl⟩
   rw[HI.out,<-hV] at hO;obtain⟨A',c',rfl⟩:=zAB hO;have Hb:=zh (Reads.zAC hO);have hp:(QS al.length).all ok=true:=by
    rw[hh.out,QM];intro k hk;exact hA.out k (List.mem_range.1 hk)
   obtain⟨tk,Hk⟩:=lt_ (zBB s xsB);have hQ:R=if tk then numsVals s (al.map Arg.val) else errG 8:=by rw[<- Ht.out];unfold zBI;rw[if_pos hp,<-hV,Hk]
   have Hc:=zh Hk;have HD:xsB.length=j:=by rw[hV,QD,hh.out]
   have HK:=zh HD;obtain⟨l0,q0,rfl⟩:=zA0 hB;clear hO hB HG hA hp hV Hk HD hC hU Hr;cases tk
   ·have ho:=zh (show R=errG 8 from hQ);clear hQ;unfold zeroV at *;go_wp2_with(first|(go_at_call 75;refine(nums_Takes s A' j c' xsB _ _ Hb.out (by omega)).mono ?_;rw[Hc.out];rintro e w4 ⟨rfl,hb⟩;obtain⟨l4,q4,rfl⟩:=zA0 hb;clear hb)|(go_at_call 13;refine mB (zA3 _ _) ?_;intro l3 q3))
    all_goals(go_returns;exact⟨by rw[ho.out],bel⟩)
   ·have Ha:=zh (show R=numsVals s (al.map Arg.val) from hQ);obtain⟨x,y,ht,Hi,HP,Hj⟩:=takes_len Hc.out;rw[HK.out] at Hi HP Hj;have HT:=zh ht;have HJ:=zh Hi;clear hQ ht Hi;obtain⟨vs,hN⟩:∃ vs,vs=al.map Arg.val:=⟨_,rfl⟩
    have HB:∀ (j:Nat) (x:Arg),al[j]? =some x->vs[j]? =some x.val:=fun j x hx=>by rw[hN,QC,hx];rfl
    have HQ:vs.length=j:=by rw[hN,QD,hh.out]
    rw[<- hN] at Ha;have He:=zh HB;have hM:∀ v∈vs,Is64 v.num:=by
     intro v hv;rw[hN] at hv;obtain⟨a,ha,rfl⟩:=QQ.1 hv;exact HE.out a ha
    have Hd:=zh hM;clear HB hN hM;obtain⟨n,hn⟩:∃ n,n=j:=⟨_,rfl⟩
    subst hn;go_wp2_with(go_at_call 75;refine(nums_Takes s A' n c' xsB _ _ Hb.out (by omega)).mono ?_;rw[Hc.out];rintro e w4 ⟨rfl,hb⟩;obtain⟨l4,q4,rfl⟩:=zA0 hb;clear hb)
    go_loopw [42] (fun t wr=>∃ j:Nat,j<=n/\t=.int .i64 j/\(vs.take j).find? isF=none/\Below (w.alloc zeroV).heap.size (w.alloc zeroV) wr) (fun t _=>n-(intOf t).toNat)
    case atStart=>exact⟨0,Q9 _,rfl,rfl,bel⟩
    case round =>
     obtain⟨j,hj,rfl,hl,Hg⟩:=hrel;have hq:Below w.heap.size w (w.alloc zeroV):=bel;have hs:Below w.heap.size w wr:=hq.trans (Hg.mono hq.size);have hU:=hs.size;have hC:=zh hs;have hw:=zh hl;have hP:=zh Hg;clear hl Hg hs hq;by_cases hlt:j<n
     ·obtain⟨a,ha⟩:∃ a,al[j]? =some a:=⟨_,Q4 (show j<al.length by have:=hh.out;omega)⟩
      obtain⟨bk,off,rfl,_,hc⟩:=HR.out.2 (by omega);have hd:∀ i u,a.cells[i]? =some u->wr.cell? ⟨bk,off+(j*11+i),none⟩=some u:=fun i u hu=>by
       have h1:=hc _ u (zAP al j a ha i u hu);exact(hC.out.cell (p:=⟨bk,_,none⟩) (Q3 w _ h1)).trans h1
      obtain⟨c0,c1,c2,c3,c4,c5,c6,c7,c8,c9,c10⟩:=tkB hd;simp only[<- Q8,QA] at c0 c1 c2 c3 c4 c5 c6 c7 c8 c9 c10;have hJ:=cltK c0;have hI:=zh (fun i u (hu:a.cells[i]? =some u)=>hc _ u (zAP al j a ha i u hu));clear hd hc;have hy:=He.out j a ha;clear ha;by_cases hf:a.val.tag=4
      ·have ho:=zh (show R=a.val by rw[Ha.out];unfold numsVals;rw[find_yes hy hw.out (by simp[isF,hf])]);have HL:(a.val.tag==4)=true:=by simp[hf]
       clear hf hy;obtain⟨l0,q0,hF⟩:=zA0 hP.out;subst hF;unfold zeroV at *;clear c0 c1 c2 c3 c4 c5 c6 c7 c8 c9 c10 hJ;obtain⟨c0,c1,c2,c3,c4,c5,c6,c7,c8,c9,c10⟩:=tkB hI.out;simp only[<- Q8,QA] at c0 c1 c2 c3 c4 c5 c6 c7 c8 c9 c10;have Hu:=cltK c0;go_wp2;all_goals(go_returns;exact⟨by rw[ho.out],bel⟩)
      ·have hZ:=zh (find_no hy hw.out (by simp[isF,hf]));have HL:(a.val.tag==4)=false:=by simp[hf]
       clear hf hy;go_wp2;go_roundw;case rel=>exact⟨j+1,by omega,by go_num,hZ.out,hP.out.trans ((show Below wr.heap.size wr _ from bel).mono hP.out.size)⟩
       case measure=>simp[intOf];omega
     ·obtain rfl:j=n:=by omega
      have hl:=hw.out;rw[Q5 (by omega)] at hl;have Hs:=zh (show R=match vs.find? badN with|some v=>errG (zA5 v).2|none=>numDo s (vs.map fun v=>(zA5 v).1) by rw[Ha.out];unfold numsVals;rw[hl]);clear hl hw;obtain⟨iI,HO,Hl,Hm,Hn⟩:=info_parts info_I;obtain⟨l5,q5,hF⟩:=zA0 hP.out;subst hF;obtain⟨n,hn⟩:∃ n,n=j:=⟨_,rfl⟩
      subst hn;go_wp2
      go_loopw [55,12] (fun t v wr=>∃ j:Nat,j<=n/\t=.int .i64 j/\(vs.take j).find? badN=none/\zAA (w.alloc zeroV) wr 2 1 v j (I ((vs.take j).map fun v=>(zA5 v).1))) (fun t _ _=>n-(intOf t).toNat)
      case atStart=>exact⟨0,Q9 _,rfl,rfl,bel,QE _ _ _ _⟩
      case round =>
       obtain⟨j,hj,rfl,hl,hG⟩:=hrel;have hq:Below w.heap.size w (w.alloc zeroV):=bel;have hs:Below w.heap.size w wr:=hq.trans (hG.1.mono hq.size);have hU:=hs.size;have hC:=zh hs;have hw:=zh hl;have HG:=zh hG;clear hl hG hs hq;by_cases hlt:j<n
       ·obtain⟨a,ha⟩:∃ a,al[j]? =some a:=⟨_,Q4 (show j<al.length by have:=hh.out;omega)⟩
        obtain⟨bk,off,rfl,_,hc⟩:=HR.out.2 (by omega);have hd:∀ i u,a.cells[i]? =some u->wr.cell? ⟨bk,off+(j*11+i),none⟩=some u:=fun i u hu=>by
         have h1:=hc _ u (zAP al j a ha i u hu);exact(hC.out.cell (p:=⟨bk,_,none⟩) (Q3 w _ h1)).trans h1
        obtain⟨c0,c1,c2,c3,c4,c5,c6,c7,c8,c9,c10⟩:=tkB hd;simp only[<- Q8,QA] at c0 c1 c2 c3 c4 c5 c6 c7 c8 c9 c10;have hJ:=cltK c0;have hI:=zh (fun i u (hu:a.cells[i]? =some u)=>hc _ u (zAP al j a ha i u hu));clear hd hc;have hy:=He.out j a ha;clear ha;have Hf:=zh hy;cases hbd:((zA5 a.val).2 != 0)
        ·have hZ:=zh (find_no Hf.out hw.out hbd);clear hy;go_wp2_with(first|(go_at_call 148;refine mB (zBX a.val _) ?_;intro l2 q2)|(at_builtin;refine wpList_append_own _ rfl _ _ 84 rfl (w.alloc zeroV).heap.size 2 iI _ 1 8 underlying84 HO Hl Hm Hn rfl (by decide) _ _ _ rfl (own_below HG.out.2 bel) _ 1 1 (I [(zA5 a.val).1]) rfl rfl ?_ ?_ ?_ ?_ ?_ ?_))
         ·exact fun i u hu=>zAO (by simp) i u hu
         ·intro u hu;simp only[I,List.map_cons,List.map_nil,QP,QL,or_false] at hu;subst hu;rfl
         ·simp only[maxLen];omega
         ·omega
         ·have h1:=HG.out.1.size;simp at h1 ⊢;omega
         ·intro v' w3 hg he _;have R:=zAA.step HG.out bel (show w3.ownsRow (w.alloc zeroV).heap.size 2 1 v' (j+1) (I ((vs.take j).map fun v=>(zA5 v).1)++I [(zA5 a.val).1]) from by simpa using hg) he;rw[show I ((vs.take j).map fun v=>(zA5 v).1)++I [(zA5 a.val).1]=I ((vs.take (j+1)).map fun v=>(zA5 v).1) by rw[take1 Hf.out];simp[I]] at R;have hW:=zh R;clear hg he R HG c0 c1 c2 c3 c4 c5 c6 c7 c8 c9 c10;go_wp2;go_roundw;case rel=>exact⟨j+1,by omega,by go_num,hZ.out,hW.out⟩
          case measure=>simp[intOf];omega
        ·have ho:=zh (show R=errG (zA5 a.val).2 by rw[Hs.out,find_yes Hf.out hw.out hbd]);clear hy;obtain⟨l0,q0,hF⟩:=zA0 HG.out.1;subst hF;unfold zeroV at *;clear c0 c1 c2 c3 c4 c5 c6 c7 c8 c9 c10 hJ;obtain⟨c0,c1,c2,c3,c4,c5,c6,c7,c8,c9,c10⟩:=tkB hI.out;simp only[<- Q8,QA] at c0 c1 c2 c3 c4 c5 c6 c7 c8 c9 c10;have Hu:=cltK c0;go_wp2_with(first|(go_at_call 148;refine mB (zBX a.val _) ?_;intro l2 q2)|(go_at_call 13;refine mB (zA3 _ _) ?_;intro l3 q3))
         all_goals(go_returns;exact⟨by rw[ho.out],bel⟩)
       ·obtain rfl:j=n:=by omega
        have hl:=hw.out;have hG:=HG.out;rw[Q5 (by omega)] at hl hG;have ho:=zh (show R=numDo s (vs.map fun v=>(zA5 v).1) by rw[Hs.out,hl]);obtain⟨ls,hT⟩:=lt_ (vs.map (fun v=>(zA5 v).1));rw[hT] at hG ho;have HA:ls.length=j:=by rw[<- hT,QD,HQ]
        have hK:∀ b∈ls,In63 b:=by
         intro b hb;rw[<- hT] at hb;obtain⟨v,hv,rfl⟩:=QQ.1 hb;exact asNum_63 v (Hd.out v hv)
        obtain⟨hB,hO⟩:=hG;obtain⟨g,cc,rfl,hg1,HM,hH⟩:=zAR hO (by omega);have HH:=zh (show AtB wr g (I ls) from hH);have hY:=zh HA;have hX:=zh hK;clear hO hH hl hT HA hK hw HG Hb HR He Ho;obtain⟨l6,q6,rfl⟩:=zA0 hB;clear hB;unfold zeroV at *;go_wp2_with fail
        go_at_call 145
        refine(nums_find_yes s x y HT.out _).mono ?_;rintro e wf ⟨⟨fn,first,cap,rfl,p1,p2,p3,Hw,Hx,Hy,Hz⟩,hb⟩;have hD:=num_do HT.out Hw Hx Hy Hz ls (by rw[hY.out];exact HJ.out) hX.out;have Hh:=HH.out.below hb;have HN:g<wf.heap.size:=Nat.lt_of_lt_of_le HM hb.size;obtain⟨l7,q7,rfl⟩:=zA0 hb;rw[zAQ] at Hh hD HN ⊢;have Hp:=zh Hh;clear Hw Hx Hy Hz Hh hb;rcases hD with ⟨k,rfl,rfl,rfl,hk,hc⟩|⟨k,p,rfl,rfl,rfl,hk,hc⟩
        ·have HC:=zh hc;clear hc;rw[hY.out] at HC;go_wp2_with(with_reducible refine Calls.mono (HC.out _ g cc bel (Hp.out.below bel) (by go_size)) ?_;rintro e w5 ⟨rfl,hb⟩;obtain⟨l8,q8,rfl⟩:=zA0 hb;clear hb)
         all_goals(go_returns;exact⟨by rw[ho.out],bel⟩)
        ·have HC:=zh hc;clear hc;rw[hY.out] at HC;go_wp2_with(with_reducible refine Calls.mono (HC.out _ g cc bel (Hp.out.below bel) (by go_size)) ?_;rintro e w5 ⟨rfl,hb⟩;obtain⟨l8,q8,rfl⟩:=zA0 hb;clear hb)
         all_goals(go_returns;exact⟨by rw[ho.out],bel⟩)
def zeroG:V:=⟨0,0,⟨#[]⟩,false,0⟩
def isN (v:V):Bool:=v.tag==1
def numsOf (l:List V):List Int:=(l.filter isN).map V.num
def zA9 (vs:List V):List Int×V:=match vs.find? isF with
 | some v=>([],v)
 | none=>(numsOf vs,zeroG)
theorem numsOf_snoc {vs:List V} {j:Nat} {v:V} (h:vs[j]? =some v):numsOf (vs.take (j+1))=numsOf (vs.take j)++(if isN v then [v.num] else []):=by
 rw[zAJ h];unfold numsOf;rw[List.filter_append,List.map_append];by_cases hv:isN v<;>simp[hv]
theorem zBl (vs:List V):(numsOf vs).length<=vs.length:=by
 unfold numsOf;rw[QD];exact List.length_filter_le _ _
theorem own_base {w:World} {base base' e size n:Nat} {v:Value} {xs:List Value} (h:w.ownsRow base e size v n xs) (hb:base'<=base):w.ownsRow base' e size v n xs:=by
 refine⟨h.1,?_⟩;rcases h.2 with h2|⟨g,cap,cur,e1,hg,rest⟩
 ·exact .inl h2
 ·exact .inr ⟨g,cap,cur,e1,by omega,rest⟩
theorem aggs_among (vs:List V) (A:Option Addr) (n c B:Nat) (w:World) (hr:Reads w B 5 A n (flat vs)) (hm:n<=1000000000000) :
  Calls prog 298 #[.slice A n c] w fun e w'=>∃ v,e=.returned (.tuple #[v,(vG ((zA9 vs).2))])/\w'.ownsRow w.heap.size 2 1 v (zA9 vs).1.length (I (zA9 vs).1)/\Below w.heap.size w w':=by
 have hl:vs.length=n:=by
  have:=hr.1;rw[flat_length] at this;omega
 obtain⟨R,hR⟩:=lt_ (zA9 vs);rw[hR];have hs:=zh hR;have HR:=zh hr;have hw:=zh hl;clear hr hR;obtain⟨i0,hi,hD,hE,hF⟩:=info_parts info_I;go_enter func298,ntmps298;go_wp2
 go_loopw [9,4] (fun t v wr=>∃ j:Nat,∃ z:List Int,j<=n/\t=.int .i64 j/\(vs.take j).find? isF=none/\z=numsOf (vs.take j)/\zAA (w.alloc zeroV) wr 2 1 v z.length (I z)) (fun t _ _=>n-(intOf t).toNat)
 case atStart=>exact⟨0,[],Q9 _,rfl,rfl,rfl,Below.refl _ _,QE _ _ _ _⟩
 case round =>
  obtain⟨j,z,hj,rfl,he,hz,hG⟩:=hrel;have hn:Below w.heap.size w (w.alloc zeroV):=bel;have hp:Below w.heap.size w wr:=hn.trans (hG.1.mono hn.size);have hws:=hp.size;have hzl:z.length<=j:=by rw[hz];exact Nat.le_trans (zBl _) (by rw[List.length_take];omega)
  have hy:=zh hp;have hh:=zh he;have HG:=zh hG;have HZ:=zh hz;clear he hG hp hn hz;by_cases hlt:j<n
  ·obtain⟨x,hx⟩:∃ x,vs[j]? =some x:=⟨_,Q4 (show j<vs.length by omega)⟩
   obtain⟨bk,off,rfl,_,hc⟩:=HR.out.2 (by omega);have ht:=zh (fun i u (hu:x.cells[i]? =some u)=>hc _ u (flat_at vs j x hx i u hu));have ha:∀ i u,x.cells[i]? =some u->wr.cell? ⟨bk,off+(j*5+i),none⟩=some u:=fun i u hu=>by
    have h1:=hc _ u (flat_at vs j x hx i u hu);exact(hy.out.cell (p:=⟨bk,_,none⟩) (Q3 w _ h1)).trans h1
   obtain⟨c0,c1,c2,c3,c4⟩:=tk5 ha;simp only[<- Q8,QA] at c0 c1 c2 c3 c4;have hB:=cltK c0;clear ha hc;by_cases hf:x.tag=4
   ·have hg:=zh (show R=([],x) by rw[<- hs.out];unfold zA9;rw[find_yes hx hh.out (by simp[isF,hf])]);have hC:(x.tag==4)=true:=by simp[hf]
    clear hf hx;obtain⟨l0,q0,ho⟩:=zA0 HG.out.1;subst ho;unfold zeroV at *;clear c0 c1 c2 c3 c4 hB;obtain⟨c0,c1,c2,c3,c4⟩:=tk5 ht.out;simp only[<- Q8,QA] at c0 c1 c2 c3 c4;have hbw:=cltK c0;go_wp2;all_goals go_region;all_goals go_wp2;all_goals(go_returns;exact⟨_,by rw[hg.out],by rw[hg.out];exact QE _ _ _ _,bel⟩)
   ·have hq:=zh (find_no hx hh.out (by simp[isF,hf]));have hC:(x.tag==4)=false:=by simp[hf]
    have hk:=numsOf_snoc hx;clear hf hx;by_cases h1:x.tag=1
    ·have hA:(x.tag==1)=true:=by simp[h1]
     have HS:=zh (show numsOf (vs.take (j+1))=z++[x.num] by rw[hk,HZ.out];simp[isN,h1]);clear h1 hk;go_wp2_with(at_builtin;refine wpList_append_own _ rfl _ _ 84 rfl (w.alloc zeroV).heap.size 2 i0 _ 1 8 underlying84 hi hD hE hF rfl (by decide) _ _ _ rfl (own_below HG.out.2 bel) _ 1 1 (I [x.num]) rfl rfl ?_ ?_ ?_ ?_ ?_ ?_)
     ·first|exact fun i u hu=>zAO (by simp) i u hu|exact fun i u hu=>hu
     ·intro u hu;simp only[I,List.map_cons,List.map_nil,QP,QL,or_false] at hu;subst hu;rfl
     ·simp only[maxLen];omega
     ·omega
     ·have h1:=HG.out.1.size;simp at h1 ⊢;omega
     ·intro v' w3 hd hb _;have R:=zAA.step HG.out bel (show w3.ownsRow (w.alloc zeroV).heap.size 2 1 v' (z.length+1) (I z++I [x.num]) from by simpa using hd) hb;rw[show I z++I [x.num]=I (z++[x.num]) by simp[I],show z.length+1=(z++[x.num]).length by simp] at R;have hv:=zh R;clear hd hb R HG c0 c1 c2 c3 c4;go_wp2;go_roundw;case rel=>exact⟨j+1,_,by omega,by go_num,hq.out,HS.out.symm,hv.out⟩
      case measure=>simp[intOf];omega
    ·have hA:(x.tag==1)=false:=by simp[h1]
     have HS:=zh (show numsOf (vs.take (j+1))=z by rw[hk,HZ.out];simp[isN,h1]);clear h1 hk;go_wp2;go_roundw;case rel=>exact⟨j+1,_,by omega,by go_num,hq.out,HS.out.symm,HG.out.1.trans ((show Below wr.heap.size wr _ from bel).mono HG.out.1.size),own_below HG.out.2 bel⟩
     case measure=>simp[intOf];omega
  ·obtain rfl:j=n:=by omega
   have he:=hh.out;have hz:=HZ.out;rw[Q5 (by omega)] at he hz;have hg:=zh (show R=(z,zeroG) by rw[<- hs.out,hz];unfold zA9;rw[he]);have HO:=zh HG.out.2;obtain⟨l0,q0,ho⟩:=zA0 HG.out.1;subst ho;clear he hz HG hh HZ;unfold zeroV at *;go_wp2;all_goals(go_returns;exact⟨_,by rw[hg.out];rfl,by rw[hg.out];exact own_base (own_below HO.out bel) (by simp),bel⟩)
def NRow (w:World) (v:Value) (l:List Int):Prop:=∃ A c,v=.slice A l.length c/\l.length<=c/\Reads w w.heap.size 1 A l.length (I l)
theorem NRow.below {w w':World} {v:Value} {l:List Int} (h:NRow w v l) (hb:Below w.heap.size w w'):NRow w' v l:=by
 obtain⟨A,c,e,h0,h⟩:=h;exact⟨A,c,e,h0,(h.below hb).lift hb.size⟩
theorem nrow_own {w:World} {base e:Nat} {v:Value} {l:List Int} (h:w.ownsRow base e 1 v l.length (I l)):NRow w v l:=by
 rcases h.2 with ⟨h1,h2⟩|⟨g,cap,cur,e1,hg,hh,h3,h4,_⟩
 ·exact⟨none,0,by rw[h1,h2],by omega,by simp[I],fun h0=>by omega⟩
 ·subst e1;exact⟨some ⟨g,0,none⟩,cap,rfl,h3,Reads.zAC h⟩
theorem wN_in {x:Int} (hx:In63 x) (h:x.tmod 10000=0):wN x=x.natAbs / 10000/\(zAF x).2=true:=by
 unfold wN;rw[whole_in hx,if_pos h];exact⟨Int.natAbs_tdiv x 10000,rfl⟩
def gcdL (l:List Int):Nat:=(l.map wN).foldl QT 0
theorem gcdL_snoc {l:List Int} {j:Nat} {x:Int} (h:l[j]? =some x):gcdL (l.take (j+1))=QT (gcdL (l.take j)) (wN x):=by
 unfold gcdL;rw[take1 h,List.map_append,List.foldl_append]
 rfl
theorem zero_snoc {l:List Int} {j:Nat} {x:Int} (h:l[j]? =some x):(l.take (j+1)).contains 0=((l.take j).contains 0 || x==0):=by
 have e:((0:Int)=x) ↔ (x=0):=eq_comm;rw[take1 h,Bool.eq_iff_iff];simp only[QH,List.mem_append,List.mem_singleton,decide_eq_true_eq,Bool.or_eq_true,beq_iff_eq,e]
theorem wN_zero {l:List Int} (hl:∀ x∈l,In63 x) (hw:allW l=true):(l.map wN).contains 0=l.contains 0:=by
 rw[Bool.eq_iff_iff];simp only[QH,QQ,decide_eq_true_eq];unfold allW at hw;rw[QM] at hw;constructor
 ·rintro⟨x,hx,h0⟩;have h1:=hw x hx;rw[whole_in (hl x hx)] at h1;have ht:x.tmod 10000=0:=by
   by_cases h:x.tmod 10000=0
   ·exact h
   ·rw[if_neg h] at h1;cases h1
  have h2:=(wN_in (hl x hx) ht).1;rw[h0] at h2;have h3:=Int.mul_tdiv_add_tmod x 10000;have h4:=Int.natAbs_tdiv x 10000;have h5:(10000:Int).natAbs=10000:=rfl;rw[h5] at h4;have:x=0:=by omega
  rwa[<- this]
 ·intro h;exact⟨0,h,by unfold wN zAF minI;rfl⟩
theorem r8_many (s:ByteArray) (hs:s=⟨#[71,67,68]⟩∨s=⟨#[76,67,77]⟩) (l:List Int) (hl:∀ x∈l,In63 x) (hn:l.length<=1000) (v:Value) (w:World) (h:NRow w v l) :
  Rt 38 #[.string s,v] w (vG (if s=⟨#[71,67,68]⟩ then gcdX l else lcmX l)):=by
 obtain⟨A,c,rfl,hc,hr⟩:=h;obtain⟨n,hY⟩:=lt_ l.length;rw[hY] at hr hn hc ⊢;obtain⟨R,hR⟩:=lt_ (if s=⟨#[71,67,68]⟩ then gcdX l else lcmX l);rw[hR];have hQ:=zh hR;have HR:=zh hr;have hq:=zh hY;have HL:=zh hl;have HS:=zh hs;clear hr hR hY hl hs;go_enter func38,ntmps38;go_wp2
 go_loopw [8,5,7] (fun t u z wr=>∃ j:Nat,∃ b:Bool,j<=n/\t=.int .i64 (j:Int)/\u=.int .u64 ((gcdL (l.take j):Nat):Int)/\z=.bool b/\b=(l.take j).contains 0/\gcdL (l.take j)<18446744073709551616/\RowKit.Hid (allW (l.take j)=true)/\Below (w.alloc zeroV).heap.size (w.alloc zeroV) wr) (fun t _ _ _=>n-(intOf t).toNat)
 case atStart=>exact⟨0,false,Q9 _,rfl,rfl,rfl,rfl,(show (0:Nat)<18446744073709551616 by decide),zh rfl,Below.refl _ _⟩
 case round =>
  obtain⟨j,b,hj,rfl,rfl,rfl,hb,hg,hw,hB⟩:=hrel;obtain⟨l0,q0,rfl⟩:=zA0 hB;clear hB;unfold zeroV at *;have hP:=zh hb;clear hb;by_cases hlt:j<n
  obtain⟨x,hx⟩:∃ x,l[j]? =some x:=⟨_,Q4 (show j<l.length by rw[hq.out];exact hlt)⟩
  obtain⟨bk,o,rfl,Hr,Ht,c0⟩:=int_at HR.out hx;have hX:(j:Int)<(n:Int):=by omega
  have he:=HL.out x (Q7 hx);have HX:=zh hx;have hE:Is64 (x.tmod 10000):=mod_word he.to64 (by unfold Is64;decide) (by decide);have wj:QG.wrap ((j:Int)+1)=((j+1:Nat):Int):=by rw[QF];omega
  by_cases ht:x.tmod 10000=0
  ·obtain⟨e1,e2⟩:=wN_in he ht;have HZ:=zh (r8_size x he.to64);have hJ:=gcdL_snoc hx;have Hj:=zero_snoc hx;have Hi:allW (l.take (j+1))=true:=by rw[allW_take hx,hw.out,e2];rfl
   obtain⟨d,hd⟩:=lt_ x.natAbs;rw[hd] at HZ e1;obtain⟨k,hk⟩:=lt_ (d / 10000);rw[hk] at e1;rw[e1] at hJ;have hC:d<=9223372036854775807:=by unfold In63 at he;omega
   have hu:k<18446744073709551616:=by omega
   have kd:(d:Int).tdiv 10000=(k:Int):=zAt hk;have kd2:(d:Int) / 10000=(k:Int):=by omega
   obtain⟨g,hA⟩:=lt_ (gcdL (l.take j));rw[hA] at hJ hg ⊢;have HG:=zh (r8_gcd g k hg hu);obtain⟨g2,hV⟩:=lt_ (QT g k);have hI:g2<18446744073709551616:=by rw[<- hV];exact gcd_word hg hu
   rw[hV] at HG hJ;have hL:=zh hJ;have Hb:=zh hI;have Hc:=zh Hi;have Hd:=zh Hj;have kw:=zAH hu;have Hx:wrap64 (x.tmod 10000)=0:=by rw[ht];unfold wrap64;rfl
   have Hy:QG.wrap (x.tmod 10000)=0:=by rw[ht,QF];rfl
   clear hJ Hj Hi hx he hE e1 e2 hd hk hu hA hV hI;by_cases hx0:x=0
   ·subst hx0;cases b;all_goals go_wp2_with(first|(go_at_call 93;refine(HZ.out _).mono ?_;rintro e w1 ⟨rfl,rfl⟩)|(go_at_call 92;refine(HG.out _).mono ?_;rintro e w1 ⟨rfl,rfl⟩))
    all_goals go_roundw;all_goals first|exact⟨j+1,true,by omega,by go_num,by rw[hL.out],rfl,by rw[Hd.out,<-hP.out];rfl,by rw[hL.out];exact Hb.out,zh Hc.out,bel⟩|(simp[intOf];omega)
   ·have Ha:(x==0)=false:=by simpa using hx0
    clear hx0;cases b;all_goals go_wp2_with(first|(go_at_call 93;refine(HZ.out _).mono ?_;rintro e w1 ⟨rfl,rfl⟩)|(go_at_call 92;refine(HG.out _).mono ?_;rintro e w1 ⟨rfl,rfl⟩))
    all_goals go_roundw;all_goals first|exact⟨j+1,_,by omega,by go_num,by rw[hL.out],rfl,by rw[Hd.out,<-hP.out,Ha];rfl,by rw[hL.out];exact Hb.out,zh Hc.out,bel⟩|(simp[intOf];omega)
  focus
   have hf:(zAF x).2=false:=by rw[whole_in he,if_neg ht]
   have hS:R=errG 8:=by
    have h9:=allW_false hx hf;rw[<- hQ.out];unfold gcdX lcmX;rw[h9];split<;>rfl
   subst hS;have ht2: ¬ x.tmod 10000=0:=ht;have Hx:wrap64 (x.tmod 10000)=x.tmod 10000:=by unfold Is64 at hE;unfold wrap64;omega
   have hne:(x.tmod 10000 != 0)=true:=by simpa using ht
   clear hx he hE hf ht
  rotate_left
  obtain rfl:j=n:=by omega
  have hX: ¬ (j:Int)<(j:Int):=by omega
  have hy:=hw.out;have hF:=hP.out;rw[Q5 (QR hq.out)] at hy hF hg ⊢;obtain⟨g,hA⟩:=lt_ (gcdL l);rw[hA] at hg ⊢;rcases HS.out with rfl|rfl;have hS:R=wholeX g false:=by
   rw[<- hQ.out,if_pos rfl];unfold gcdX;rw[hy,if_pos rfl,<-hA]
   rfl
  subst hS;have HW:=zh (r8_whole g hg false);clear hy hF hA
  rotate_left
  have hH:R=if b then numG 0 else lcmGo (l.map wN) 1:=by
   rw[<- hQ.out,if_neg (by decide)];unfold lcmX;rw[hy,if_pos rfl,wN_zero HL.out hy,<-hF]
  cases b
  ·rw[if_neg (by decide)] at hH;have Hn:=zh hH.symm;have Hp:=zh hy;have Hl:=zh (show (l.map wN).contains 0=false by rw[wN_zero HL.out hy,<-hF]);clear hy hF hH hA hg;obtain⟨n,Hv⟩:∃ n,n=j:=⟨_,rfl⟩
   subst Hv;go_wp2
   go_loopw [9,6] (fun t u wr=>∃ (j q:Nat),j<=n/\t=.int .i64 (j:Int)/\u=.int .u64 (q:Int)/\1<=q/\q<=922337203685477/\RowKit.Hid (lcmGo ((l.map wN).drop j) q=R)/\Below (w.alloc zObj).heap.size (w.alloc zObj) wr) (fun t _ _=>n-(intOf t).toNat)
   case atStart=>exact⟨0,1,Q9 _,rfl,rfl,by omega,by omega,zh Hn.out,bel⟩
   case round =>
    obtain⟨j,q,hj,rfl,rfl,Hh,hq2,hR,hB⟩:=hrel;obtain⟨l1,q1,rfl⟩:=zA0 hB;clear hB;by_cases hlt:j<n
    ·obtain⟨x,hx⟩:∃ x,l[j]? =some x:=⟨_,Q4 (show j<l.length by rw[hq.out];exact hlt)⟩
     obtain⟨bk,o,rfl,Hr,Ht,c0⟩:=int_at HR.out hx;have hX:(j:Int)<(n:Int):=by omega
     have wj:QG.wrap ((j:Int)+1)=((j+1:Nat):Int):=by rw[QF];omega
     have he:=HL.out x (Q7 hx);have hK:(zAF x).2=true:=by
      have:=Hp.out;unfold allW at this;exact QM.1 this x (Q7 hx)
     have ht:x.tmod 10000=0:=by
      rw[whole_in he] at hK;by_cases h:x.tmod 10000=0
      ·exact h
      ·rw[if_neg h] at hK;cases hK
     have e1:=(wN_in he ht).1;have HZ:=zh (r8_size x he.to64);have ha:(l.map wN)[j]? =some (wN x):=by rw[QC,hx];rfl
     obtain⟨d,hd⟩:=lt_ x.natAbs;rw[hd] at HZ e1;obtain⟨a,hM⟩:=lt_ (d / 10000);rw[hM] at e1;rw[e1] at ha;have hC:d<=9223372036854775807:=by unfold In63 at he;omega
     have hi:a<18446744073709551616:=by omega
     have kd:(d:Int).tdiv 10000=(a:Int):=zAt hM;have kd2:(d:Int) / 10000=(a:Int):=by omega
     have He:a≠0:=by
      intro e;have h0:=Hl.out;rw[QH] at h0;simp only[decide_eq_false_iff_not] at h0;exact h0 (e ▸ Q7 ha)
     have hT:(l.map wN).drop j=a::(l.map wN).drop (j+1):=by
      obtain⟨hm,hv⟩:=QB.1 ha;rw[List.drop_eq_getElem_cons hm,hv]
     have hh:=hR.out;rw[hT] at hh;unfold lcmGo at hh;obtain⟨g,hG⟩:=lt_ (QT q a);have hU:0<g:=by rw[<- hG];exact Nat.gcd_pos_of_pos_left _ Hh
     have hW:g<=a:=by rw[<- hG];exact Nat.gcd_le_right _ (by omega)
     obtain⟨k,hD⟩:=lt_ (a / g);have hN:1<=k:=by rw[<- hD];exact Nat.div_pos hW hU
     have Hf:k<=a:=by rw[<- hD];exact Nat.div_le_self _ _
     obtain⟨p,hp⟩:=lt_ (q*k);have hZ:1<=p:=by rw[<- hp];exact Nat.mul_le_mul Hh hN
     rw[hG,hD,hp] at hh;obtain⟨z,hz⟩:=lt_ (922337203685477 / k);have hO:z<q ↔ 922337203685477<p:=by rw[<- hz,<-hp];exact Nat.div_lt_iff_lt_mul hN
     have lz:z<=922337203685477:=by rw[<- hz];exact Nat.div_le_self _ _
     have bz:z<18446744073709551616:=by omega
     have bk2:k<18446744073709551616:=by omega
     have HG:=zh (r8_gcd q a (by omega) hi);rw[hG] at HG;have gk:(a:Int).tdiv (g:Int)=(k:Int):=zAt hD;have gk2:(a:Int) / (g:Int)=(k:Int):=by rw[<- hD];rfl
     have gz:(922337203685477:Int).tdiv (k:Int)=(z:Int):=zAt hz;have gz2:(922337203685477:Int) / (k:Int)=(z:Int):=by rw[<- hz];rfl
     have Hs: ¬ (g:Int)=0:=by omega
     have Hu: ¬ (k:Int)=0:=by omega
     by_cases ho:z<q
     ·have Hw:(z:Int)<(q:Int):=by omega
      rw[if_pos (hO.1 ho)] at hh;subst hh;have w1:=zAH hi;have w2:=zAH bk2;have w3:=zAH bz;clear hx he hK ht e1 ha hd hM hC hi He hT hG hU hW hD hN Hf hp hZ hz hO lz bz bk2 ho hR;go_wp2_with(first|(go_at_call 93;refine(HZ.out _).mono ?_;rintro e w1 ⟨rfl,rfl⟩)|(go_at_call 92;refine(HG.out _).mono ?_;rintro e w1 ⟨rfl,rfl⟩)|(go_at_call 22;refine mB (zA6 _ _) ?_;intro l m))
      all_goals(go_returns;exact rb_)
     ·have Hw: ¬ (z:Int)<(q:Int):=by omega
      have Hg:p<=922337203685477:=by have:=mt hO.2 ho;omega
      rw[if_neg (by omega)] at hh;have Ho:=zh hh;have Hk:=zh Hg;have Hm:=zh hZ;have w4:=wu_mul hp (by omega);have w1:=zAH hi;have w2:=zAH bk2;have w3:=zAH bz;clear hx he hK ht e1 ha hd hM hC hi He hT hG hU hW hD hN Hf hp hZ hz hO lz bz bk2 ho hR hh Hg;go_wp2_with(first|(go_at_call 93;refine(HZ.out _).mono ?_;rintro e w1 ⟨rfl,rfl⟩)|(go_at_call 92;refine(HG.out _).mono ?_;rintro e w1 ⟨rfl,rfl⟩))
      go_roundw;case rel=>exact⟨j+1,p,by omega,by go_num,rfl,Hm.out,Hk.out,zh Ho.out,bel⟩
      case measure=>simp[intOf];omega
    ·obtain rfl:j=n:=by omega
     have hX: ¬ (j:Int)<(j:Int):=by omega
     have hh:=hR.out;rw[List.drop_of_length_le (by rw[QD];exact QR hq.out)] at hh;have Hq:R=wholeX q false:=hh.symm;subst Hq;have HW:=zh (r8_whole q (by omega) false);clear hh hR;go_wp2_with(go_at_call 94;refine mB (HW.out _) ?_;intro l m)
     all_goals(go_returns;exact rb_)
  rw[if_pos rfl] at hH;subst hH;have HN:=zh (zAw 0 (by unfold Is64;decide));clear hy hF hA hg;all_goals
   go_wp2_with(first|(go_at_call 22;refine mB (zA6 _ _) ?_;intro l m)|(go_at_call 94;refine mB (HW.out _) ?_;intro l m)|(go_at_call 39;refine mB (HN.out _) ?_;intro l m))
   all_goals(go_returns;exact rb_)
theorem gath_V {ops:Array Oper} {rest:List Oper} {o:Oper} {a:Act} {w:World} {Q:Exit->Act->World->Prop} (hgd:o.guard=none) (s x:Operand)
  (ho:o.op=.call { callee:=.builtin .append,args:=#[s,x],argTypes:=#[106,106] })
  {W w0 w1:World} {v:Value} {g:Nat} {vs:List V} (u:V) (hs:a.eval s=v) (hG:zAA W w0 29 5 v vs.length (flat vs)) (hb:Below w0.heap.size w0 w1) (hw:w=w1.alloc (.cells #[.int .i64 u.tag,.int .i64 u.num,.string u.str,.bool u.is,.int .i64 u.code] 29)) (hg:g=w1.heap.size) (hx:a.eval x=.slice (some ⟨g,0,none⟩) 1 1) (hm:vs.length<=1000000000000)
  (h:∀ v' w',zAA W w' 29 5 v' (vs++[u]).length (flat (vs++[u]))->wpList prog ops Q rest (a.put o.dst v') w'):wpList prog ops Q (o::rest) a w :=
 gath_one hgd s x 106 29 5 48 _ ho underlying106 info_V (by decide) rfl (by decide) #[.int .i64 u.tag,.int .i64 u.num,.string u.str,.bool u.is,.int .i64 u.code] rfl (cells_one u) hs hG hb hw (by rw[hg]) hx hm
  (fun v' w' h1=>h v' w' (by rw[show flat (vs++[u])=flat vs++u.cells by rw[zBr];simp[flat],QI];exact h1))
theorem r10_items (pl:List (Arg×List En)) (A:Option Addr) (n c:Nat) (w:World) (hr:Reads w w.heap.size 11 A n (zAY (pl.map Prod.fst))) (hE:∀ p∈pl,zAW w p.1 p.2) (hT:(zA2 pl).length<=1000000000000) (hm:n<=1000000000000) (hnn:∀ p∈pl,p.1.n<=1000000000000) :
  Calls prog 55 #[.slice A n c] w fun e w'=>∃ v,e=.returned v/\w'.ownsRow w.heap.size 29 5 v (zA2 pl).length (flat (zA2 pl))/\Below w.heap.size w w':=by
 have hf:pl.length=n:=by
  have:=hr.1;rw[zAN,QD] at this;omega
 have HR:=zh hr;have HE:=zh hE;have HT:=zh hT;have he:=zh hf;have hB:=zh hnn;clear hr hE hT hnn hf;go_enter func55,ntmps55;go_wp2
 go_loopw [4,3] (fun t v wr=>∃ j:Nat,j<=n/\t=.int .i64 j/\zAA w wr 29 5 v (zA2 (pl.take j)).length (flat (zA2 (pl.take j)))) (fun t _ _=>n-(intOf t).toNat)
 case atStart=>exact⟨0,Q9 _,rfl,Below.refl _ _,QE _ _ _ _⟩
 case round =>
  obtain⟨j,hj,rfl,hG⟩:=hrel;by_cases hlt:j<n
  obtain⟨p,hp⟩:∃ p,pl[j]? =some p:=⟨_,Q4 (show j<pl.length by rw[he.out];exact hlt)⟩
  have HA:=zh (show (pl.map Prod.fst)[j]? =some p.1 by rw[QC,hp];rfl);have ha:=zh (fun (W:World) (hb:Below w.heap.size w W)=>arg_at ((HR.out.below hb).lift hb.size) HA.out);have ho:=itemsG_le hp;have hg:=itemsG_snoc hp;have hH:=hB.out p (Q7 hp);have ht:=zh (HE.out p (Q7 hp));have hF:(j:Int)<(n:Int):=by omega
  have wj:QG.wrap ((j:Int)+1)=((j+1:Nat):Int):=by rw[QF];omega
  have HG:=zh hG;clear hp hG;obtain⟨⟨many,val,top,left,bottom,right,ents,m,cc⟩,es⟩:=p;simp only at ha hH;have hd:es.length=m:=ht.out.1;obtain⟨r,hr⟩:∃ r,r=zA2 (pl.take j):=⟨_,rfl⟩
  rw[<- hr] at ho hg HG;clear hr;cases many
  focus
   have hn:(zBC (⟨false,val,top,left,bottom,right,ents,m,cc⟩,es)).length=1+m:=by simp[zBC];omega
   have hJ:r.length+1+m<=1000000000000:=by have:=HT.out;omega
   have HQ:=zh (show r++[val]++es.map En.v=zA2 (pl.take (j+1)) by rw[hg];simp[zBC]);have hi:=zh (show (r++[val]).length+m<=1000000000000 by simp;omega);have hs:r.length<=1000000000000:=by omega
   have hl:=zh hd;obtain⟨b,o,rfl,hb,hC,c0,c1,c2,c3,c4,c5,c6,c7,c8,c9,c10⟩:=ha.out _ HG.out.1;have hw:=HG.out.1.size;clear hn ho hg hd hJ c6 c7 c8 c9 c10;go_wp2_with(at_builtin;refine gath_V rfl _ _ rfl val rfl HG.out bel rfl (by simp) rfl hs ?_;intro v3 w3 hc)
   obtain⟨q,hq⟩:=lt_ (r++[val]);rw[hq] at hc HQ hi;have hu:=zh hc;clear hc hq c0 c1 c2 c3 c4 c5 hb hw
  rotate_left
  have HQ:=zh (show r++es.map En.v=zA2 (pl.take (j+1)) by rw[hg];simp[zBC]);have hn:(zBC (⟨true,val,top,left,bottom,right,ents,m,cc⟩,es)).length=m:=by simp[zBC];omega
  have hi:=zh (show r.length+m<=1000000000000 by have:=HT.out;omega);have hl:=zh hd;obtain⟨b,o,rfl,hb,hC,c0,c1,c2,c3,c4,c5,c6,c7,c8,c9,c10⟩:=ha.out _ HG.out.1;have hw:=HG.out.1.size;obtain⟨q,hq⟩:=lt_ r;rw[hq] at HQ hi HG;have hu:=HG;clear hq hn ho hg hd HG c1 c2 c3 c4 c5 c6 c7 c8 c9 c10
  rotate_left
  ·obtain rfl:j=n:=by omega
   have hF: ¬ (j:Int)<(j:Int):=by omega
   rw[Q5 (QR he.out)] at hG;have HG:=zh hG;clear hG;go_wp2;all_goals go_ret;all_goals exact⟨_,rfl,HG.out.2,HG.out.1⟩
  all_goals
   go_wp2
   go_loopw [5,3] (fun t v wr=>∃ k:Nat,∃ z:List V,k<=m/\t=.int .i64 k/\RowKit.Hid (z=q++(es.take k).map En.v)/\zAA w wr 29 5 v z.length (flat z)) (fun t _ _=>m-(intOf t).toNat)
   case atStart=>exact⟨0,q,Q9 _,rfl,zh (by simp),hu.out⟩
   case round =>
    obtain⟨k,z,hk,rfl,HZ,hc⟩:=hrel;have hh:=zh hc;have hw3:=hc.1.size;obtain⟨b3,o3,e3,hb3,-,-,-,-,-,-,-,-,-,-,-,c10⟩:=ha.out _ hc.1;injection e3 with e3;injection e3 with e3 e4;subst e3;subst e4;clear hc;by_cases hkl:k<m
    ·obtain⟨x,hx⟩:∃ x,es[k]? =some x:=⟨_,Q4 (show k<es.length by rw[hl.out];exact hkl)⟩
     obtain⟨b4,o4,e5,hb4,-,e6,e7,d1,d2,d3,d4,d5⟩:=ent_at (ht.out.below hh.out.1) hx;simp only at e5;subst e5;have hD:(k:Int)<(m:Int):=by omega
     have wk:QG.wrap ((k:Int)+1)=((k+1:Nat):Int):=by rw[QF];omega
     have HX:=zh (show z++[x.v]=q++(es.take (k+1)).map En.v by rw[HZ.out,zAJ hx];simp);have hI:z.length<=1000000000000:=by have:=hi.out;rw[HZ.out];simp;omega
     clear hx e6 e7;go_wp2_with(at_builtin;refine gath_V rfl _ _ rfl x.v rfl hh.out bel rfl (by simp) rfl hI ?_;intro v4 w4 hv)
     have hA:=zh hv;clear hv;go_wp2;go_roundw;case rel=>exact⟨k+1,_,by omega,rfl,HX,hA.out⟩
     case measure=>simp[intOf];omega
    ·obtain rfl:k=m:=by omega
     have hD: ¬ (k:Int)<(k:Int):=by omega
     have hz:=HZ.out;rw[Q5 (show es.length<=k by rw[hl.out];exact Nat.le_refl _),HQ.out] at hz;have hc:=hh.out;rw[hz] at hc;have hy:=zh hc;clear hc hh hz HZ;go_wp2;go_roundw;case rel=>exact⟨j+1,by omega,rfl,hy.out⟩
     case measure=>simp[intOf];omega
theorem zBD (vs:List V) (A:Option Addr) (n c B:Nat) (w:World) (hr:Reads w B 5 A n (flat vs)) (hm:n<=1000000000000) :
  Rt 64 #[.slice A n c] w (.tuple #[(vG ((vs.find? isF).getD zeroG)),.bool (vs.find? isF).isSome]):=by
 have hc:vs.length=n:=by
  have:=hr.1;rw[flat_length] at this;omega
 obtain⟨R,hR⟩:=lt_ (vs.find? isF);rw[hR];have hh:=zh hR;have HR:=zh hr;have hi:=zh hc;clear hr hR;go_enter func64,ntmps64;go_wp2
 go_loopw [4] (fun t wr=>∃ j:Nat,j<=n/\t=.int .i64 (j:Int)/\RowKit.Hid ((vs.take j).find? isF=none)/\Below (w.alloc zeroV).heap.size (w.alloc zeroV) wr) (fun t _=>n-(intOf t).toNat)
 case atStart=>exact⟨0,Q9 _,rfl,zh rfl,Below.refl _ _⟩
 case round =>
  obtain⟨j,hj,rfl,hg,hB⟩:=hrel;obtain⟨l0,q0,rfl⟩:=zA0 hB;clear hB;unfold zeroV at *;by_cases hlt:j<n
  ·obtain⟨val,ha⟩:∃ a,vs[j]? =some a:=⟨_,Q4 (show j<vs.length by omega)⟩
   obtain⟨b,o,rfl,hb,hjn,c1,c2,c3,c4,c5⟩:=val_at HR.out ha;have hn:(j:Int)<(n:Int):=by omega
   have wj:QG.wrap ((j:Int)+1)=((j+1:Nat):Int):=by rw[QF];omega
   have HA:=zh ha;clear ha hc;by_cases hf:val.tag=4
   ·have he:=zh (show R=some val by rw[<- hh.out,find_yes HA.out hg.out (by simp[isF,hf])]);have hl:(val.tag==4)=true:=by simp[hf]
    clear hf;go_wp2;all_goals(go_returns;exact⟨by rw[he.out];rfl,bel⟩)
   ·have hk:=zh (find_no HA.out hg.out (by simp[isF,hf]));have hl:(val.tag==4)=false:=by simp[hf]
    clear hf;go_wp2;go_roundw;case rel=>exact⟨j+1,by omega,by go_num,zh hk.out,bel⟩
    case measure=>simp[intOf];omega
  ·obtain rfl:j=n:=by omega
   have hd:=hg.out;rw[Q5 (by omega)] at hd;have he:=zh (show R=none by rw[<- hh.out,hd]);have hn: ¬ (j:Int)<(j:Int):=by omega
   clear hd hc;go_wp2;all_goals(go_returns;exact⟨by rw[he.out];rfl,bel⟩)
def ren_C:Go.Shelf.Ren:=⟨fun _=>300,fun _=>133,fun k=>k⟩
theorem lays_C:Go.Proofs.Lays7.n25 prog ren_C:= {
 mixed:=by kernel_rfl
 f25:=by kernel_rfl
 t22:=by kernel_rfl
 a22:=fun w=>by kernel_rfl
 z22:=fun w=>by kernel_rfl
 v22:=fun w=>by kernel_rfl
 i22:=by kernel_rfl }
theorem run_Add64 (x y c:Nat) (hc:c<=1) (w:World):(callFunc 300 #[.int .u64 x,.int .u64 y,.int .u64 c]).run prog w =
  .ok (.value (.tuple #[.int .u64 (((x+y+c) % 18446744073709551616:Nat):Int),.int .u64 (((x+y+c) / 18446744073709551616:Nat):Int)])) w :=
 Any7.bits_Add64 lays_C x y c hc w
def sumO (S:Int):Obj:=.cells #[.int .i64 (S / 18446744073709551616),.int .u64 (S % 18446744073709551616)] 215 (0,0)
def sumZ:Obj:=.cells #[.int .i64 0,.int .u64 0] 215
theorem run_Add64' (a b:Int) (ha:0<=a) (hb:0<=b) (w:World):(callFunc 300 #[.int .u64 a,.int .u64 b,.int .u64 0]).run prog w =
  .ok (.value (.tuple #[.int .u64 ((a+b) % 18446744073709551616),.int .u64 ((a+b) / 18446744073709551616)])) w:=by
 obtain⟨x,rfl⟩:=QN ha;obtain⟨y,rfl⟩:=QN hb;exact run_Add64 x y 0 (by decide) w
theorem sum_words {S x:Int} (hx:Is64 x):∃ y ca:Int,IntKind.u64.wrap x=y/\0<=y/\0<=ca/\ca<=1/\(S % 18446744073709551616+y) % 18446744073709551616=(S+x) % 18446744073709551616 /\
  (S % 18446744073709551616+y) / 18446744073709551616=ca/\S / 18446744073709551616+x / 9223372036854775808+ca=(S+x) / 18446744073709551616:=by
 unfold Is64 at hx;refine⟨_,_,rfl,?_,?_,?_,?_,rfl,?_⟩;all_goals rw[show IntKind.u64.wrap x=x % 18446744073709551616 from rfl];all_goals omega
theorem aggs_sum (l:List Int) (A:Option Addr) (n c B:Nat) (w:World) (hr:Reads w B 1 A n (I l)) (hm:n<=1000000000000) (h64:∀ x∈l,Is64 x) :
  Rt 232 #[.slice A n c] w (.agg #[.int .i64 (l.sum / 18446744073709551616),.int .u64 (l.sum % 18446744073709551616)]):=by
 have hh:l.length=n:=by have:=hr.1;simp[I] at this;omega
 have HR:=zh hr;have hb:=zh h64;clear hr h64;go_enter func232,ntmps232;go_wp2
 go_loopw [10] (fun t wr=>∃ j:Nat,∃ S:Int,j<=n/\t=.int .i64 j/\S=(l.take j).sum/\(-9223372036854775808*(j:Int)<=S/\S<=9223372036854775808*(j:Int))/\Below (w.alloc sumZ).heap.size (w.alloc sumZ) wr/\wr.heap[(w.alloc sumZ).heap.size]? =some (sumO S)) (fun t _=>n-(intOf t).toNat)
 case atStart=>exact⟨0,0,Q9 _,rfl,rfl,⟨by decide,by decide⟩,zBb (Below.refl _ _) sumZ (Nat.le_refl _),heap_alloc_new (w.alloc sumZ) sumZ⟩
 case round =>
  obtain⟨j,S,hj,rfl,hS,⟨hS1,hS2⟩,hB,hO⟩:=hrel;have hO:wr.heap[w.heap.size+1]? =some (.cells #[.int .i64 (S / 18446744073709551616),.int .u64 (S % 18446744073709551616)] 215 (0,0)):=by simpa [sumO] using hO
  have b0:wr.cell? ⟨w.heap.size+1,0,none⟩=some (.int .i64 (S / 18446744073709551616)):=by rw[Lib.cell_of_heap hO];rfl
  have b1:wr.cell? ⟨w.heap.size+1,1,none⟩=some (.int .u64 (S % 18446744073709551616)):=by rw[Lib.cell_of_heap hO];rfl
  have bf:∀ i,wr.frozen? ⟨w.heap.size+1,i,none⟩=false:=fun i=>Lib.frozen_of_heap hO i;have bf0:=bf 0;have bf1:=bf 1;have hls:w.heap.size+1<wr.heap.size:=Q3 wr _ b0;have he:Below w.heap.size w wr:=(show Below w.heap.size w (w.alloc sumZ) from bel).trans (hB.mono (by simp));have HO:=zh hO;have HB:=zh hB;have hd:=zh he;have HS:=zh hS;clear bf hO hB he hS;by_cases hlt:j<n
  ·obtain⟨x,hx⟩:∃ x,l[j]? =some x:=⟨_,Q4 (show j<l.length by omega)⟩
   obtain⟨bk,off,rfl,_,hc⟩:=HR.out.2 (by omega);have c0:wr.cell? ⟨bk,off+j,none⟩=some (.int .i64 x):=by
    have h1:=hc j (.int .i64 x) (by simp[I,hx]);exact(hd.out.cell (p:=⟨bk,_,none⟩) (Q3 w _ h1)).trans h1
   obtain⟨y,ca,hy,y0,k0,k1,g1,g2,g3⟩:=sum_words (S:=S) (hb.out x (Q7 hx));have hA:=fun W=>run_Add64' (S % 18446744073709551616) y (by omega) y0 W;rw[g1,g2] at hA;have hf:=zh g3;clear g1 g2 g3;have HX:=zh hx;have ha:=hb.out x (Q7 hx);clear hx;go_wp2;have e1:wrap64 (wrap64 (S / 18446744073709551616+x / 9223372036854775808)+ca)=(S+x) / 18446744073709551616:=by
    have:=hf.out;unfold Is64 at ha;unfold wrap64;omega
   rw[e1];refine⟨⟨j+1,S+x,by omega,by go_num,by rw[HS.out,zAJ HX.out];simp,⟨by unfold Is64 at ha;omega,by unfold Is64 at ha;omega⟩,?_,?_⟩,by simp[intOf];omega⟩
   ·exact(HB.out.setCell (p:=⟨w.heap.size+1,0,none⟩) (by simp) _).setCell (p:=⟨w.heap.size+1,1,none⟩) (by simp) _
   ·have hO:=HO.out;simp only[World.size_alloc];rw[heap_setCell_same _ _ _ _ _ _ (heap_setCell_same _ _ _ _ _ _ hO)]
    rfl
  ·obtain rfl:j=n:=by omega
   have hS:=HS.out;rw[Q5 (by omega)] at hS;have hg:=zh hS;obtain⟨l0,q0,hi⟩:=zA0 HB.out;subst hi;unfold sumZ at *;clear hS HO HS HB hd;go_wp2;all_goals(go_returns;exact⟨by rw[hg.out],bel⟩)
theorem zBH {a:Arg} {P:Nat->Value->Prop} (h:∀ i u,a.cells[i]? =some u->P i u):P 0 (.bool a.many)/\P 1 (.int .i64 a.val.tag)/\P 2 (.int .i64 a.val.num)/\P 3 (.string a.val.str)/\P 4 (.bool a.val.is)/\P 5 (.int .i64 a.val.code)/\P 6 (.int .i64 a.top)/\P 7 (.int .i64 a.left)/\P 8 (.int .i64 a.bottom)/\P 9 (.int .i64 a.right)/\P 10 (.slice a.ents a.n a.c):=⟨h 0 _ rfl,h 1 _ rfl,h 2 _ rfl,h 3 _ rfl,h 4 _ rfl,h 5 _ rfl,h 6 _ rfl,h 7 _ rfl,h 8 _ rfl,h 9 _ rfl,h 10 _ rfl⟩
theorem zBA {a:Arg} {P:Nat->Value->Prop} (h:∀ i u,a.cells[i]? =some u->P i u):P 1 (.int .i64 a.val.tag)/\P 2 (.int .i64 a.val.num)/\P 3 (.string a.val.str)/\P 4 (.bool a.val.is)/\P 5 (.int .i64 a.val.code):=⟨h 1 _ rfl,h 2 _ rfl,h 3 _ rfl,h 4 _ rfl,h 5 _ rfl⟩
theorem box0 {w W:World} (hb:Below (w.alloc zObj).heap.size (w.alloc zObj) W) :
  Below w.heap.size w W/\w.heap.size<W.heap.size/\W.cell? ⟨w.heap.size,0,none⟩=some (.int .i64 0)/\W.cell? ⟨w.heap.size,1,none⟩=some (.int .i64 0)/\W.cell? ⟨w.heap.size,2,none⟩=some (.string ⟨#[]⟩)/\W.cell? ⟨w.heap.size,3,none⟩=some (.bool false)/\W.cell? ⟨w.heap.size,4,none⟩=some (.int .i64 0) /\
  W.frozen? ⟨w.heap.size,0,none⟩=false/\W.frozen? ⟨w.heap.size,1,none⟩=false/\W.frozen? ⟨w.heap.size,2,none⟩=false/\W.frozen? ⟨w.heap.size,3,none⟩=false/\W.frozen? ⟨w.heap.size,4,none⟩=false:=by
 obtain⟨l,q,rfl⟩:=zA0 hb;refine⟨bel,by simp;omega,?_⟩;refine⟨?_,?_,?_,?_,?_,?_,?_,?_,?_,?_⟩<;>go_simp
theorem boxq {w W:World} {a:Arg} {l:List Obj} {q:Nat} (h:W=more ((w.alloc zObj).alloc (.cells #[.bool a.many,.int .i64 a.val.tag,.int .i64 a.val.num,.string a.val.str,.bool a.val.is,.int .i64 a.val.code,.int .i64 a.top,.int .i64 a.left,.int .i64 a.bottom,.int .i64 a.right,.slice a.ents a.n a.c] 51)) l q):Below w.heap.size w W/\w.heap.size<W.heap.size/\w.heap.size+1<W.heap.size/\W.cell? ⟨w.heap.size,0,none⟩=some (.int .i64 0)/\W.cell? ⟨w.heap.size,1,none⟩=some (.int .i64 0)/\W.cell? ⟨w.heap.size,2,none⟩=some (.string ⟨#[]⟩)/\W.cell? ⟨w.heap.size,3,none⟩=some (.bool false)/\W.cell? ⟨w.heap.size,4,none⟩=some (.int .i64 0)/\W.frozen? ⟨w.heap.size,0,none⟩=false/\W.frozen? ⟨w.heap.size,1,none⟩=false/\W.frozen? ⟨w.heap.size,2,none⟩=false/\W.frozen? ⟨w.heap.size,3,none⟩=false/\W.frozen? ⟨w.heap.size,4,none⟩=false/\W.cell? ⟨w.heap.size+1,0,none⟩=some (.bool a.many)/\W.cell? ⟨w.heap.size+1,1,none⟩=some (.int .i64 a.val.tag)/\W.cell? ⟨w.heap.size+1,2,none⟩=some (.int .i64 a.val.num)/\W.cell? ⟨w.heap.size+1,3,none⟩=some (.string a.val.str)/\W.cell? ⟨w.heap.size+1,4,none⟩=some (.bool a.val.is)/\W.cell? ⟨w.heap.size+1,5,none⟩=some (.int .i64 a.val.code)/\W.cell? ⟨w.heap.size+1,6,none⟩=some (.int .i64 a.top)/\W.cell? ⟨w.heap.size+1,7,none⟩=some (.int .i64 a.left)/\W.cell? ⟨w.heap.size+1,8,none⟩=some (.int .i64 a.bottom)/\W.cell? ⟨w.heap.size+1,9,none⟩=some (.int .i64 a.right)/\W.cell? ⟨w.heap.size+1,10,none⟩=some (.slice a.ents a.n a.c):=by
 subst h;refine⟨bel,by simp;omega,by simp;omega,?_⟩;refine⟨?_,?_,?_,?_,?_,?_,?_,?_,?_,?_,?_,?_,?_,?_,?_,?_,?_,?_,?_,?_,?_⟩<;>go_simp
end Go.Proofs.YtnccknhbplaieaaGreatDoor
