/- Parts. -/
import Derived.Test.YtnccknhbplaieaaGreatDoorC04
set_option linter.all false
set_option maxRecDepth 100000
set_option maxHeartbeats 4000000
namespace Go.Proofs.YtnccknhbplaieaaGreatDoor
open Go Go.RowKit Go.Proofs.Tryz
open _root_.List renaming getElem?_eq_getElem->Q3,take_of_length_le->Q5,getElem?_map->Q8
open Go.World renaming block_lt_of_cell?->Q4,cell?_alloc_lt->Q7,ownsRow_nil->Q9
structure Arg where
 many:Bool
 val:V
 top:Int
 left:Int
 bottom:Int
 right:Int
 ents:Option Addr
 n:Nat
 c:Nat
def Arg.agg (a:Arg):Value:=.agg #[.bool a.many,.int .i64 a.val.tag,.int .i64 a.val.num,.string a.val.str,.bool a.val.is,.int .i64 a.val.code,.int .i64 a.top,.int .i64 a.left,.int .i64 a.bottom,.int .i64 a.right,.slice a.ents a.n a.c]
def Arg.cells (a:Arg):List Value:=[.bool a.many,.int .i64 a.val.tag,.int .i64 a.val.num,.string a.val.str,.bool a.val.is,.int .i64 a.val.code,.int .i64 a.top,.int .i64 a.left,.int .i64 a.bottom,.int .i64 a.right,.slice a.ents a.n a.c]
def zAY (xs:List Arg):List Value:=xs.flatMap Arg.cells
theorem zBq (a:Arg) (xs:List Arg):zAY (a::xs)=a.cells++zAY xs:=rfl
theorem zAN (xs:List Arg):(zAY xs).length=xs.length*11:=by
 induction xs with
 | nil=>rfl
 | cons v vs ih=>rw[zBq,List.length_append,ih,List.length_cons];simp[Arg.cells];omega
theorem zAP (xs:List Arg) (k:Nat) (a:Arg) (h:xs[k]? =some a) (j:Nat) (u:Value) (hu:a.cells[j]? =some u):(zAY xs)[k*11+j]? =some u:=by
 induction xs generalizing k with
 | nil=>simp at h
 | cons x xs ih =>
   have hj:j<11:=(List.getElem?_eq_some_iff.1 hu).1;rw[zBq];cases k with
   | zero =>
     simp at h;subst h;rw[List.getElem?_append_left (by simp[Arg.cells];omega)]
     simpa using hu
   | succ k =>
     rw[List.getElem?_append_right (by simp[Arg.cells];omega)];have:=ih k (by simpa using h);have e:(k+1)*11+j-x.cells.length=k*11+j:=by simp[Arg.cells];omega
     rw[e];exact this
def single (v:V):Arg:=⟨false,v,0,0,0,0,none,0,0⟩
theorem rect0 (w:World):(binOp .eql 48 (.agg #[.int .i64 0,.int .i64 0,.int .i64 0,.int .i64 0]) (.agg #[.int .i64 0,.int .i64 0,.int .i64 0,.int .i64 0])).run prog w=.ok (.bool true) w:=by
 rw[run_eql_struct];go_simp
theorem may_single (v:V) (w:World):Rt 12 #[(single v).agg] w (.bool (mayG v)):=by
 have hq:=rect0;unfold single Arg.agg;dsimp only;go_enter func12,ntmps12;go_wp2_with(go_at_call 29;refine mB (zB1 _ _) ?_;intro l n)
 all_goals go_ret;exact rb_
open Go.Lib renaming hid->zh
theorem own_below {w w1:World} {base e size n:Nat} {v:Value} {xs:List Value} (h:w.ownsRow base e size v n xs) (hb:Below w.heap.size w w1):w1.ownsRow base e size v n xs:=by
 refine⟨h.1,?_⟩;rcases h.2 with h2|⟨g,cap,cur,e1,hg,hh,rest⟩
 ·exact .inl h2
 ·exact .inr ⟨g,cap,cur,e1,hg,(hb.block g (Array.getElem?_eq_some_iff.1 hh).1).trans hh,rest⟩
theorem own_block_ge {w:World} {base e size n:Nat} {v:Value} {xs:List Value} (h:w.ownsRow base e size v n xs):∀ k,v.ownBlock=some k->base<=k:=fun k hk=>(h.lt k hk).1
theorem Reads.zAC {w:World} {size n base c:Nat} {e:TypeId} {A:Option Addr} {xs:List Value} (h:w.ownsRow base e size (.slice A n c) n xs):Reads w w.heap.size size A n xs:=by
 refine⟨h.1,fun hn=> ?_⟩;rcases h.2 with ⟨_,h2⟩|⟨g,cap,cur,e1,hg,hh,h1,h2,h3,h4⟩
 ·omega
 ·injection e1 with e1;subst e1;refine⟨g,0,rfl,(Array.getElem?_eq_some_iff.1 hh).1,fun j u hu=> ?_⟩;have:=h.cells (g:=g) rfl j u hu;rw[<- this]
  congr 1
  unfold Addr.add;split<;>simp_all
theorem zAR {w:World} {base e size n:Nat} {v:Value} {xs:List Value} (h:w.ownsRow base e size v n xs) (hn:0<n):∃ g c,v=.slice (some ⟨g,0,none⟩) n c/\base<=g/\g<w.heap.size/\∀ j u,xs[j]? =some u->w.cell? ⟨g,j,none⟩=some u:=by
 rcases h.2 with ⟨_,h2⟩|⟨g,cap,cur,e1,hg,hh,h1,h2,h3,h4⟩
 ·omega
 ·subst e1;refine⟨g,cap,rfl,hg,(Array.getElem?_eq_some_iff.1 hh).1,fun j u hu=> ?_⟩;have:=h.cells (g:=g) rfl j u hu;rw[<- this]
  congr 1
  unfold Addr.add;split<;>simp_all
theorem zAJ {α:Type} {xs:List α} {k:Nat} {a:α} (h:xs[k]? =some a):xs.take (k+1)=xs.take k++[a]:=by
 rw[List.take_add_one,h]
 rfl
theorem zBr (xs ys:List V):flat (xs++ys)=flat xs++flat ys:=by simp[flat]
theorem info_V:(prog.info? 29).map (fun i=>(i.zero,i.size,i.bytes))=some (some (.agg #[.int .i64 0,.int .i64 0,.string ⟨#[]⟩,.bool false,.int .i64 0]),5,48):=by kernel_rfl
theorem info_B:(prog.info? 4).map (fun i=>(i.zero,i.size,i.bytes))=some (some (.bool false),1,1):=by kernel_rfl
theorem cell_blk {w:World} {b i:Nat} {cs:Array Value} {t:TypeId} {v:Value} (h:w.heap[b]? =some (.cells cs t (0,0))) (hv:cs[i]? =some v):w.cell? ⟨b,i,none⟩=some v:=(cell_of_row w b i cs t (0,0) h).trans hv
theorem zAO {w:World} {cs:Array Value} {t:TypeId} {b:Nat} (hb:b=w.heap.size):∀ j u,cs.toList[j]? =some u->(w.alloc (.cells cs t)).cell? ((⟨b,0,none⟩:Addr).add j)=some u:=by
 subst hb;intro j u hu;have e:(⟨w.heap.size,0,none⟩:Addr).add j=⟨w.heap.size,j,none⟩:=by unfold Addr.add;split<;>simp_all
 rw[e,cell_of_row (w.alloc (.cells cs t)) w.heap.size j cs t (0,0) (heap_alloc_new w _)]
 simpa using hu
theorem cells_one (v:V):∀ u∈v.cells,u.oneCell'=true:=by
 intro u hu;simp only[V.cells,List.mem_cons,List.not_mem_nil,or_false] at hu;rcases hu with rfl|rfl|rfl|rfl|rfl<;>rfl
def zAA (w wr:World) (e:TypeId) (size:Nat) (v:Value) (k:Nat) (xs:List Value):Prop:=Below w.heap.size w wr/\wr.ownsRow w.heap.size e size v k xs
theorem zAA.step {w wr w2 w3:World} {e:TypeId} {size:Nat} {v v':Value} {k:Nat} {xs ys:List Value} (h:zAA w wr e size v k xs) (hb:Below wr.heap.size wr w2)
  (ho:w3.ownsRow w.heap.size e size v' (k+1) (xs++ys)) (hg:w2.grownBy w3 v.ownBlock):zAA w w3 e size v' (k+1) (xs++ys):=by
 obtain⟨h1,h3⟩:=h;have ha:=own_block_ge h3;have s1:=h1.size;have s2:=hb.size;exact⟨(h1.trans (hb.mono (by omega))).grown hg (by omega) ha,ho⟩
def zeroV:Obj:=.cells #[.int .i64 0,.int .i64 0,.string ⟨#[]⟩,.bool false,.int .i64 0] 29
theorem gather0 (pd k:Nat) (hk:∀ (args:Array Value) (w:World),Sem.run prog (callFunc k args) w=.ok (.enter k args) w) (tx:Int) (xs:List Arg) (A:Option Addr) (n c B:Nat) (w:World) (hp:w.cell? ⟨pd,0,none⟩=some (.func (.func k) #[] #[])) (hr:Reads w B 11 A n (zAY xs)) (hm:n<=1000000000000) (h0:0<n) (r:V)
  (hd:∀ w' g c',Below w.heap.size w w'->Held w' g (xs.map Arg.val)->Calls prog k #[.slice (some ⟨g,0,none⟩) n c'] w' fun e w''=>e=.returned (vG r)/\Below w'.heap.size w' w'') :
  Rt 176 #[.slice A n c,.int .i64 tx,.pointer (some ⟨pd,0,none⟩)] w (vG r):=by
 have hl:xs.length=n:=by
  have:=hr.1;rw[zAN] at this;omega
 obtain⟨b,off,rfl,_,hc⟩:=hr.2 h0;obtain⟨vs,hh⟩:∃ vs,vs=xs.map Arg.val:=⟨_,rfl⟩
 have hvl:vs.length=n:=by rw[hh,List.length_map,hl]
 have hn:∀ (j:Nat) (x:Arg),xs[j]? =some x->vs[j]? =some x.val:=fun j x hx=>by rw[hh,Q8,hx];rfl
 rw[<- hh] at hd;have HV:=zh hn;have HC:=zh hc;have HD:=zh hd;have hpl:=Q4 w _ hp;obtain⟨i0,hi,hs,ht,hv⟩:=info_parts info_V;clear hr hc hd hn hh;go_enter func176,ntmps176;go_wp2
 go_loopw [11,6] (fun t v wr=>∃ j:Nat,j<=n/\t=.int .i64 j/\zAA (w.alloc zeroV) wr 29 5 v j (flat (vs.take j))) (fun t _ _=>n-(intOf t).toNat)
 case atStart=>exact⟨0,Nat.zero_le _,rfl,Below.refl _ _,Q9 _ _ _ _⟩
 case round =>
  obtain⟨j,hj,rfl,hR⟩:=hrel;by_cases hlt:j<n
  ·obtain⟨x,hx⟩:∃ x,xs[j]? =some x:=⟨_,Q3 (show j<xs.length by omega)⟩
   have ha:∀ i u,x.cells[i]? =some u->wr.cell? ⟨b,off+(j*11+i),none⟩=some u:=fun i u hu=>by
    have h1:=HC.out _ u (zAP xs j x hx i u hu);have h2:=cltK h1;exact(hR.1.cell (p:=⟨b,_,none⟩) (by simp;omega)).trans ((Q7 w _ _ h2).trans h1)
   obtain⟨c0,c1,c2,c3,c4,c5,c6,c7,c8,c9,c10⟩:=tkB ha;simp only[<- Nat.add_assoc,Nat.add_zero] at c0 c1 c2 c3 c4 c5 c6 c7 c8 c9 c10;have hq:=zh (HV.out j x hx);have HR:=zh hR;clear ha hR;go_wp2_with(at_builtin;refine wpList_append_own _ rfl _ _ 106 rfl (w.alloc zeroV).heap.size 29 i0 _ 5 48 underlying106 hi hs ht hv rfl (by decide) _ _ _ rfl (own_below HR.out.2 bel) _ 1 1 x.val.cells rfl rfl ?_ ?_ ?_ ?_ ?_ ?_)
   ·exact fun i u hu=>zAO (by simp) i u hu
   ·exact cells_one _
   ·simp only[maxLen];omega
   ·omega
   ·have h1:=HR.out.1.size;simp at h1 ⊢;omega
   ·intro v' w1 hf he _;have R:=zAA.step HR.out bel (show w1.ownsRow (w.alloc zeroV).heap.size 29 5 v' (j+1) (flat (vs.take j)++x.val.cells) from by simpa using hf) he;have ef:flat (vs.take j)++x.val.cells=flat (vs.take (j+1)):=by rw[zAJ hq.out,zBr];simp[flat]
    rw[ef] at R;have ho:=zh R;clear hf he R HR c0 c1 c2 c3 c4 c5 c6 c7 c8 c9 c10;go_wp2;go_roundw;case rel=>exact⟨j+1,by omega,by go_num,ho.out⟩
    case measure=>simp[intOf];omega
  ·obtain rfl:j=n:=by omega
   rw[Q5 (by omega)] at hR;obtain⟨hB,hO⟩:=hR;obtain⟨g,c',rfl,hg,hgl,hH⟩:=zAR hO h0;have HH:=zh (show Held wr g vs from hH);have HB:=zh ((show Below w.heap.size w (w.alloc zeroV) from bel).trans (hB.mono (by simp)));obtain⟨l0,q0,rfl⟩:=zA0 hB;clear hO hH hB;unfold zeroV at *;go_wp2_with(with_reducible refine Calls.mono (HD.out _ g c' HB.out HH.out) ?_;rintro e w2 ⟨rfl,hb⟩;obtain⟨l,q,rfl⟩:=zA0 hb;clear hb)
   all_goals go_returns;exact rb_
theorem gather1 (pd k p:Nat) (hk:∀ (args:Array Value) (w:World),Sem.run prog (callFunc k args) w=.ok (.enter k args) w) (tx:Int) (xs:List Arg) (A:Option Addr) (n c B:Nat) (w:World) (hp:w.cell? ⟨pd,0,none⟩=some (.func (.func k) #[] #[.pointer (some ⟨p,0,none⟩)])) (hr:Reads w B 11 A n (zAY xs)) (hm:n<=1000000000000) (h0:0<n) (r:V)
  (hd:∀ w' g c',Below w.heap.size w w'->Held w' g (xs.map Arg.val)->Calls prog k #[.slice (some ⟨g,0,none⟩) n c',.pointer (some ⟨p,0,none⟩)] w' fun e w''=>e=.returned (vG r)/\Below w'.heap.size w' w'') :
  Rt 176 #[.slice A n c,.int .i64 tx,.pointer (some ⟨pd,0,none⟩)] w (vG r):=by
 have hl:xs.length=n:=by
  have:=hr.1;rw[zAN] at this;omega
 obtain⟨b,off,rfl,_,hc⟩:=hr.2 h0;obtain⟨vs,hh⟩:∃ vs,vs=xs.map Arg.val:=⟨_,rfl⟩
 have hvl:vs.length=n:=by rw[hh,List.length_map,hl]
 have hn:∀ (j:Nat) (x:Arg),xs[j]? =some x->vs[j]? =some x.val:=fun j x hx=>by rw[hh,Q8,hx];rfl
 rw[<- hh] at hd;have HV:=zh hn;have HC:=zh hc;have HD:=zh hd;have hpl:=Q4 w _ hp;obtain⟨i0,hi,hs,ht,hv⟩:=info_parts info_V;clear hr hc hd hn hh;go_enter func176,ntmps176;go_wp2
 go_loopw [11,6] (fun t v wr=>∃ j:Nat,j<=n/\t=.int .i64 j/\zAA (w.alloc zeroV) wr 29 5 v j (flat (vs.take j))) (fun t _ _=>n-(intOf t).toNat)
 case atStart=>exact⟨0,Nat.zero_le _,rfl,Below.refl _ _,Q9 _ _ _ _⟩
 case round =>
  obtain⟨j,hj,rfl,hR⟩:=hrel;by_cases hlt:j<n
  ·obtain⟨x,hx⟩:∃ x,xs[j]? =some x:=⟨_,Q3 (show j<xs.length by omega)⟩
   have ha:∀ i u,x.cells[i]? =some u->wr.cell? ⟨b,off+(j*11+i),none⟩=some u:=fun i u hu=>by
    have h1:=HC.out _ u (zAP xs j x hx i u hu);have h2:=cltK h1;exact(hR.1.cell (p:=⟨b,_,none⟩) (by simp;omega)).trans ((Q7 w _ _ h2).trans h1)
   obtain⟨c0,c1,c2,c3,c4,c5,c6,c7,c8,c9,c10⟩:=tkB ha;simp only[<- Nat.add_assoc,Nat.add_zero] at c0 c1 c2 c3 c4 c5 c6 c7 c8 c9 c10;have hq:=zh (HV.out j x hx);have HR:=zh hR;clear ha hR;go_wp2_with(at_builtin;refine wpList_append_own _ rfl _ _ 106 rfl (w.alloc zeroV).heap.size 29 i0 _ 5 48 underlying106 hi hs ht hv rfl (by decide) _ _ _ rfl (own_below HR.out.2 bel) _ 1 1 x.val.cells rfl rfl ?_ ?_ ?_ ?_ ?_ ?_)
   ·exact fun i u hu=>zAO (by simp) i u hu
   ·exact cells_one _
   ·simp only[maxLen];omega
   ·omega
   ·have h1:=HR.out.1.size;simp at h1 ⊢;omega
   ·intro v' w1 hf he _;have R:=zAA.step HR.out bel (show w1.ownsRow (w.alloc zeroV).heap.size 29 5 v' (j+1) (flat (vs.take j)++x.val.cells) from by simpa using hf) he;have ef:flat (vs.take j)++x.val.cells=flat (vs.take (j+1)):=by rw[zAJ hq.out,zBr];simp[flat]
    rw[ef] at R;have ho:=zh R;clear hf he R HR c0 c1 c2 c3 c4 c5 c6 c7 c8 c9 c10;go_wp2;go_roundw;case rel=>exact⟨j+1,by omega,by go_num,ho.out⟩
    case measure=>simp[intOf];omega
  ·obtain rfl:j=n:=by omega
   rw[Q5 (by omega)] at hR;obtain⟨hB,hO⟩:=hR;obtain⟨g,c',rfl,hg,hgl,hH⟩:=zAR hO h0;have HH:=zh (show Held wr g vs from hH);have HB:=zh ((show Below w.heap.size w (w.alloc zeroV) from bel).trans (hB.mono (by simp)));obtain⟨l0,q0,rfl⟩:=zA0 hB;clear hO hH hB;unfold zeroV at *;go_wp2_with(with_reducible refine Calls.mono (HD.out _ g c' HB.out HH.out) ?_;rintro e w2 ⟨rfl,hb⟩;obtain⟨l,q,rfl⟩:=zA0 hb;clear hb)
   all_goals go_returns;exact rb_
end Go.Proofs.YtnccknhbplaieaaGreatDoor
