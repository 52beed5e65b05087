/- Parts. -/
import Derived.Test.YtppghgnhlgoagaaGreatDoorG23
import Derived.Test.YtppghgnhlgoagaaGreatDoorG35
import Derived.Test.YtppghgnhlgoagaaGreatDoorG17
import Derived.Test.YtppghgnhlgoagaaGreatDoorG36
set_option linter.all false
set_option maxRecDepth 100000
set_option maxHeartbeats 4000000
namespace Go.Proofs.YtppghgnhlgoagaaGreatDoor
open Go Go.RowKit
structure LawIn (w:World) (pl:List (Arg×List En)) (A:Option Addr) (n c:Nat):Prop where
 hr:Reads w w.heap.size 11 A n (zBC (pl.map Prod.fst))
 hE:∀ p∈pl,zAt w p.1 p.2
 hm:n<=1048576
 hcap:n<=c
 h64:∀ p∈pl,Is64 p.1.val.num/\∀ e∈p.2,Is64 e.v.num
 hsz:∀ q∈pl,q.1.val.str.size<=1048576/\∀ e∈q.2,e.v.str.size<=1048576
 hn9:∀ q∈pl,q.1.n<=1048576
 hp:zBs w
 hM:MaxL w
theorem LawIn.below {w W:World} {pl:List (Arg×List En)} {A:Option Addr} {n c:Nat} (h:LawIn w pl A n c) (hb:Below w.heap.size w W):LawIn W pl A n c :=
 ⟨(h.hr.below hb).lift hb.size,fun p hp=>(h.hE p hp).below hb,h.hm,h.hcap,h.h64,h.hsz,h.hn9,h.hp.below hb (Nat.le_refl _),h.hM.below hb⟩
theorem all_lay:namesL.all (fun n=>(layOf n).isSome)=true:=by decide +kernel
theorem first_layL {s:ByteArray} (h:inFirst 50 s=true):(layOf s).isSome=true:=by
 unfold inFirst at h
 obtain⟨n,hn,e⟩:=List.any_eq_true.1 h
 simp only[decide_eq_true_eq] at e
 subst e
 exact List.all_eq_true.1 all_lay s (List.mem_of_mem_take hn)
theorem ite_isL {α:Type} {p:Prop} [Decidable p] {a:α} {b:Option α} {t:Bool} (h:t=b.isSome):(if p then true else t)=(if p then some a else b).isSome:=by
 by_cases hp:p
 ·rw[if_pos hp,if_pos hp];rfl
 ·rw[if_neg hp,if_neg hp];exact h
theorem isOwn_eqL (s:ByteArray):isOwn s=(zAz s).isSome:=by
 unfold isOwn zAz
 iterate 16 refine ite_isL ?_
 rfl
theorem isOwn_some {s:ByteArray} (h:isOwn s=true):(zAz s).isSome=true:=by rw[<- isOwn_eqL];exact h
def okJ (pl:List (Arg×List En)) (j:Nat):Bool:=zBo (pl.getD j p0A).1 (pl.getD j p0A).2
theorem okJ_at {pl:List (Arg×List En)} {j:Nat} {p:Arg×List En} (h:pl[j]? =some p):okJ pl j=zBo p.1 p.2:=by
 unfold okJ
 rw[List.getD_eq_getElem?_getD,h]
 rfl
theorem map_at {pl:List (Arg×List En)} {j:Nat} {a:Arg} (h:(pl.map Prod.fst)[j]? =some a):∃ p,pl[j]? =some p/\p.1=a:=by
 rw[List.getElem?_map] at h
 cases e:pl[j]? with
 | none=>rw[e] at h;cases h
 | some p=>rw[e] at h;exact⟨p,rfl,Option.some.inj h⟩
theorem items_bound:∀ pl:List (Arg×List En),(∀ p∈pl,p.2.length<=1048576)->(zA4 pl).length<=pl.length*1048577
 | [],_=>by simp[zA4]
 | p::pl,h=>by
   have h1:=items_bound pl fun q hq=>h q (List.mem_cons_of_mem _ hq)
   have h2:=h p (by simp)
   have h3:(zC3 p).length<=1048577:=by
    unfold zC3
    rw[List.length_append,List.length_map]
    split<;>simp<;>omega
   unfold zA4 at h1 ⊢
   rw[List.flatMap_cons,List.length_append,List.length_cons]
   omega
section
variable {w:World} {pl:List (Arg×List En)} {A:Option Addr} {n c:Nat}
theorem LawIn.len (h:LawIn w pl A n c):pl.length=n:=by
 have:=h.hr.1
 rw[zAo,List.length_map] at this
 omega
theorem LawIn.jE (h:LawIn w pl A n c):∀ a∈pl.map Prod.fst,Is64 a.val.num:=fun a ha=>by
 obtain⟨p,hp,rfl⟩:=List.mem_map.1 ha
 exact(h.h64 p hp).1
theorem LawIn.may (h:LawIn w pl A n c) (F:Nat) (hF:∀ (a:Arg) (es:List En) (W:World),zAt W a es->a.n<=1000000000000->Calls Tryz.prog F #[a.agg] W fun e w'=>e=.returned (.bool (zBo a es))/\Below W.heap.size W w') :
  ∀ j a,(pl.map Prod.fst)[j]? =some a->∀ W,Below w.heap.size w W->Calls Tryz.prog F #[a.agg] W fun e w'=>e=.returned (.bool (okJ pl j))/\Below W.heap.size W w':=fun j a ha W hb=>by
 obtain⟨p,hj,rfl⟩:=map_at ha
 have hm:=List.mem_of_getElem? hj
 rw[okJ_at hj]
 exact hF p.1 p.2 W ((h.hE p hm).below hb) (by have:=h.hn9 p hm;omega)
theorem LawIn.nums (h:LawIn w pl A n c) (s:ByteArray) (tx:Int):Rt 91 #[.string s,.slice A n c,.int .i64 tx] w (vG (zBE s (pl.map Prod.fst) (okJ pl))) :=
 nums_Call s _ A n c _ tx w h.hr (by have:=h.hm;omega) h.jE (okJ pl) (h.may _ nums_may)
theorem LawIn.texts (h:LawIn w pl A n c) (s:ByteArray) (tx:Int):Rt 94 #[.string s,.slice A n c,.int .i64 tx] w (vG (zBH s (pl.map Prod.fst) (okJ pl) tx)) :=
 texts_Call s _ A n c _ tx w h.hr (by have:=h.hm;omega) h.jE (fun a ha=>by
  obtain⟨p,hp,rfl⟩:=List.mem_map.1 ha
  exact(h.hsz p hp).1) h.hp h.hM (okJ pl) (h.may _ texts_may)
theorem LawIn.aggs (h:LawIn w pl A n c) (s:ByteArray) (tx:Int):Rt 97 #[.string s,.slice A n c,.int .i64 tx] w (vG (zBT s (pl.map Prod.fst) pl (okJ pl) tx)) :=
 aggs_Call s _ pl rfl A n c tx w h.hr (by have:=h.hm;omega) h.hcap h.jE (okJ pl) (h.may _ aggs_may) (fun j p hj=>okJ_at hj) h.hE (fun p hp=>(h.h64 p hp).2)
  (fun h16=>by
   have h1:=items_bound pl fun p hp=>by have:=(h.hE p hp).1;have:=h.hn9 p hp;omega
   have:=h.len
   omega) h.hsz (fun q hq=>by have:=h.hn9 q hq;omega) h.hp
def tabX (s:ByteArray) (pl:List (Arg×List En)) (tx:Int):V:=match zAz s with
 | some _=>zCG (okJ pl) s (pl.map Prod.fst) (ownDo s ((pl.map Prod.fst).map Arg.val))
 | none=>match layOf s with
   | some 0=>zBE s (pl.map Prod.fst) (okJ pl)
   | some 1=>zBH s (pl.map Prod.fst) (okJ pl) tx
   | some _=>zBT s (pl.map Prod.fst) pl (okJ pl) tx
   | none=>errG 8
theorem own_none {s:ByteArray} {i:Nat} (h:layOf s=some i):zAz s=none:=by
 cases ho:zAz s with
 | none=>rfl
 | some q=>rw[own_lay s ho] at h;cases h
theorem lay_takes {s:ByteArray} {i:Nat} (h:layOf s=some i) (xs:List Bool):takesAll s xs=layTakes i s xs:=by
 unfold takesAll
 rw[own_none h,h]
theorem callX_nums {s:ByteArray} (h:layOf s=some 0) (al:List Arg) (ok:Nat->Bool):zCG ok s al (zBE s al ok)=zBE s al ok:=by
 unfold zCG
 rw[lay_takes h]
 show (if (List.range al.length).all ok&&zBZ s (al.map Arg.many) then _ else _)=_
 unfold zBE
 cases (List.range al.length).all ok<;>cases zBZ s (al.map Arg.many)<;>rfl
theorem callX_texts {s:ByteArray} (h:layOf s=some 1) (al:List Arg) (ok:Nat->Bool) (tx:Int):zCG ok s al (zBH s al ok tx)=zBH s al ok tx:=by
 unfold zCG
 rw[lay_takes h]
 show (if (List.range al.length).all ok&&zBG s (al.map Arg.many) then _ else _)=_
 unfold zBH
 cases (List.range al.length).all ok<;>cases zBG s (al.map Arg.many)<;>simp
theorem callX_aggs {s:ByteArray} (h:layOf s=some 2) (al:List Arg) (pl:List (Arg×List En)) (ok:Nat->Bool) (tx:Int):zCG ok s al (zBT s al pl ok tx)=zBT s al pl ok tx:=by
 unfold zCG
 rw[lay_takes h]
 show (if (List.range al.length).all ok&&zBB s (al.map Arg.many) then _ else _)=_
 unfold zBT
 cases (List.range al.length).all ok<;>cases zBB s (al.map Arg.many)<;>simp
theorem argOk_may {a:Arg} {es:List En} (h:zBo a es=true):mayG a.val=true:=by
 unfold zBo at h
 by_cases hm:a.many=true
 ·rw[if_pos hm] at h
  simp only[Bool.and_eq_true] at h
  have h1:=h.1.2
  unfold eqB at h1
  rw[of_decide_eq_true h1]
  decide +kernel
 ·rw[if_neg hm] at h
  simp only[Bool.and_eq_true] at h
  exact h.2
theorem layOf_cases {s:ByteArray} {i:Nat} (h:layOf s=some i):i=0∨i=1∨i=2:=by
 unfold layOf at h
 split at h
 ·cases h;exact .inl rfl
 ·split at h
  ·cases h;exact .inr (.inl rfl)
  ·split at h
   ·cases h;exact .inr (.inr rfl)
   ·cases h
theorem LawIn.tableF (h:LawIn w pl A n c) (b:Nat) (hR:zCF w b) (hap:Apart b A n) (hL:∀ w',Turn b w w'->LawIn w' pl A n c) (s:ByteArray) (tx:Int):Calls Tryz.prog 26 #[.pointer (some ⟨b,0,none⟩),.string s,.slice A n c,.int .i64 tx] w fun e w'=>e=.returned (vG (tabX s pl tx))/\Ready w' b/\Turn b w w':=by
 have hm:n<=1000000000000:=by have:=h.hm;omega
 have hmay:=fun j a hj w' (hT:Turn b w w')=>(hL w' hT).may _ funcs_may j a hj w' (Below.refl _ _)
 have hlen:=h.len
 unfold tabX
 cases ho:zAz s with
 | some q =>
   obtain⟨x,y,d⟩:=q
   refine table_callOwnF b tx s x y d ho (okJ pl) (pl.map Prod.fst) A n c _ w hR h.hr hap hm hmay _ (fun w' pd f hb hc hD hbt hall=> ?_)
   refine own_do ho (pl.map Prod.fst) A n c _ tx w' pd f hc hD (hL w' hb).hr hm hbt (fun v hv=> ?_) (fun v hv=> ?_)
   ·obtain⟨a,ha,rfl⟩:=List.mem_map.1 hv
    exact h.jE a ha
   ·obtain⟨a,ha,rfl⟩:=List.mem_map.1 hv
    obtain⟨p,hp,rfl⟩:=List.mem_map.1 ha
    obtain⟨j,hj⟩:=List.getElem?_of_mem hp
    have h1:=hall j (by have:=(List.getElem?_eq_some_iff.1 hj).1;omega)
    rw[okJ_at hj] at h1
    exact argOk_may h1
 | none =>
   cases hl:layOf s with
   | some i =>
     rcases layOf_cases hl with rfl|rfl|rfl
     ·have h1:=table_callLayF b tx s 0 hl (okJ pl) (pl.map Prod.fst) A n c _ w hR h.hr hap hm hmay _ (fun w' hb=>(hL w' hb).nums s tx)
      rw[callX_nums hl] at h1
      exact h1
     ·have h1:=table_callLayF b tx s 1 hl (okJ pl) (pl.map Prod.fst) A n c _ w hR h.hr hap hm hmay _ (fun w' hb=>(hL w' hb).texts s tx)
      rw[callX_texts hl] at h1
      exact h1
     ·have h1:=table_callLayF b tx s 2 hl (okJ pl) (pl.map Prod.fst) A n c _ w hR h.hr hap hm hmay _ (fun w' hb=>(hL w' hb).aggs s tx)
      rw[callX_aggs hl] at h1
      exact h1
   | none =>
     have hD:D1 50 s=false:=by
      cases hd:D1 50 s with
      | false=>rfl
      | true =>
        exfalso
        unfold D1 at hd
        rcases Bool.or_eq_true_iff.1 hd with h1|h1
        ·have h2:=isOwn_some h1
         rw[ho] at h2
         cases h2
        ·have h2:=first_layL h1
         rw[hl] at h2
         cases h2
     exact table_callNoneF b tx s hD (okJ pl) (pl.map Prod.fst) A n c _ w hR h.hr hap hm hmay
end
inductive It where
 | val (v:V)
 | rect (t l b r:Int) (es:List En)
def vArg (v:V):Arg:=⟨false,v,0,0,0,0,none,0,0⟩
def rArg (t l b r:Int) (A:Option Addr) (n c:Nat):Arg:=⟨true,VO,t,l,b,r,A,n,c⟩
def zAH (p:Arg×List En):It:=if p.1.many then .rect p.1.top p.1.left p.1.bottom p.1.right p.2 else .val p.1.val
def It.arg:It->Arg×List En
 | .val v=>(vArg v,[])
 | .rect t l b r es=>(rArg t l b r (if es=[] then none else some ⟨0,0,none⟩) es.length es.length,es)
def It.many:It->Bool
 | .val _=>false
 | .rect .. =>true
def It.v:It->V
 | .val v=>v
 | .rect .. =>VO
def WfP (p:Arg×List En):Prop:=(p.1.many=false->p=(vArg p.1.val,[]))/\(p.1.many=true->p.1.val=VO)
def SzV (v:V):Prop:=Is64 v.num/\v.str.size<=1048576
def SzP (p:Arg×List En):Prop:=SzV p.1.val/\p.1.n<=1048576/\∀ e∈p.2,SzV e.v
theorem Arg.cells_length (a:Arg):a.cells.length=11:=rfl
theorem Arg.cells_one (a:Arg):∀ u∈a.cells,u.oneCell'=true:=by
 intro u hu
 simp only[Arg.cells,List.mem_cons,List.not_mem_nil,or_false] at hu
 rcases hu with rfl|rfl|rfl|rfl|rfl|rfl|rfl|rfl|rfl|rfl|rfl<;>rfl
theorem wf_val (v:V):WfP (vArg v,[]):=⟨fun _=>rfl,fun h=>by cases h⟩
def EntsIn (base:Nat) (w:World) (asked t7:Value) (p:Arg×List En):Prop:=p.2.length=p.1.n/\(0<p.1.n->∃ b off,p.1.ents=some ⟨b,off,none⟩/\base<=b/\b<w.heap.size/\asked.ownBlock≠some b/\t7.ownBlock≠some b/\∀ i u,(zBi En.cells p.2)[i]? =some u->w.cell? ⟨b,off+i,none⟩=some u)
theorem entsIn_val (base:Nat) (w:World) (asked t7:Value) (v:V):EntsIn base w asked t7 (vArg v,[]):=⟨rfl,fun h=>by cases h⟩
theorem EntsIn.below {base:Nat} {w w':World} {asked t7:Value} {p:Arg×List En} (h:EntsIn base w asked t7 p) (hb:Below w.heap.size w w'):EntsIn base w' asked t7 p :=
 ⟨h.1,fun hn=>by
  obtain⟨b,off,e,h1,h2,h3,h4,h5⟩:=h.2 hn
  exact⟨b,off,e,h1,Nat.lt_of_lt_of_le h2 hb.size,h3,h4,fun i u hu=>cell_below (h5 i u hu) hb⟩⟩
theorem EntsIn.at {base:Nat} {w:World} {asked t7:Value} {p:Arg×List En} (h:EntsIn base w asked t7 p):zAt w p.1 p.2 :=
 ⟨h.1,by rw[zAD En.cells 7 En.cells_length,h.1],fun hn=>by
  obtain⟨b,off,e,h1,h2,h3,h4,h5⟩:=h.2 hn
  exact⟨b,off,e,h2,h5⟩⟩
def zBn (pt tp:Nat) (row:Option Nat) (w w':World):Prop:=w'.os=w.os/\w'.tape=w.tape/\w'.output=w.output/\w.heap.size<=w'.heap.size/\∀ k,k<w.heap.size->k≠pt->k≠tp->row≠some k->w'.heap[k]? =w.heap[k]?
theorem zBn.of_below {pt tp:Nat} {row:Option Nat} {w w':World} (h:Below w.heap.size w w'):zBn pt tp row w w':=⟨h.os,h.tape,h.output,h.size,fun k hk _ _ _=>h.block k hk⟩
theorem zBn.of_two {pt tp:Nat} {row:Option Nat} {w w':World} (h:zBu pt row w w'):zBn pt tp row w w':=⟨h.1,h.2.1,h.2.2.1,h.2.2.2.1,fun k h1 h2 _ h3=>h.2.2.2.2 k h1 h2 h3⟩
theorem zBn.of_turn {pt tp:Nat} {row:Option Nat} {w w':World} (h:Turn tp w w'):zBn pt tp row w w':=⟨h.1,h.2.1,h.2.2.1,h.2.2.2.1,fun k h1 _ h2 _=>h.2.2.2.2 k h1 h2⟩
theorem zBn.trans {pt tp:Nat} {row row1:Option Nat} {w w1 w2:World} (h:zBn pt tp row w w1) (h2:zBn pt tp row1 w1 w2) (hr:row1=row∨∀ k,row1=some k->w.heap.size<=k):zBn pt tp row w w2:=by
 refine⟨h2.1.trans h.1,h2.2.1.trans h.2.1,h2.2.2.1.trans h.2.2.1,Nat.le_trans h.2.2.2.1 h2.2.2.2.1,fun k hk hp ht hn=> ?_⟩
 have h3:=h.2.2.2.1
 rw[h2.2.2.2.2 k (by omega) hp ht (by
  rcases hr with rfl|hr
  ·exact hn
  ·intro e
   have:=hr k e
   omega),h.2.2.2.2 k hk hp ht hn]
theorem zBn.cell {pt tp:Nat} {row:Option Nat} {w w':World} (h:zBn pt tp row w w') {b i:Nat} {v:Value} (hp:b≠pt) (ht:b≠tp) (hr:row≠some b) (hc:w.cell? ⟨b,i,none⟩=some v):w'.cell? ⟨b,i,none⟩=some v :=
 (World.cell?_of_block (a:=⟨b,i,none⟩) (h.2.2.2.2 b (World.block_lt_of_cell? w _ hc) hp ht hr)).trans hc
theorem zBn.below {pt tp:Nat} {row:Option Nat} {w w1 w2:World} (h:zBn pt tp row w w1) (hb:Below w1.heap.size w1 w2):zBn pt tp row w w2:=h.trans (zBn.of_below (row:=row) hb) (.inl rfl)
def FarT (t:Tb):Prop:=t.pt≠t.tp/\(0<t.ents.length->∀ b off,t.A=some ⟨b,off,none⟩->b≠t.tp)/\(0<t.told.length->∀ b off,t.ta=some ⟨b,off,none⟩->b≠t.tp)
structure WX (w1 wr:World) (B:Nat) (tb:Tb) (ask0:Value) (t7:Value) (pl:List (Arg×List En)) (asked:Value) (na:Nat) (L:List Value):Prop where
 src:SrcG wr B tb asked na L
 kept:zBn tb.pt tb.tp ask0.ownBlock w1 wr
 row:asked.ownBlock=ask0.ownBlock∨∀ k,asked.ownBlock=some k->w1.heap.size<=k
 own:wr.ownsRow w1.heap.size 91 11 t7 pl.length (zBi Arg.cells (pl.map Prod.fst))
 ne:∀ k,asked.ownBlock=some k->t7.ownBlock≠some k
 ents:∀ p∈pl,EntsIn w1.heap.size wr asked t7 p
 wf:∀ p∈pl,WfP p
 sz:∀ p∈pl,SzP p
 far:FarT tb/\tb.tp<w1.heap.size/\ask0.ownBlock≠some tb.tp
 lf:(∃ aks,L=zBi Ak.cells aks)/\(na=0->asked.ownBlock=none)
 bl:∀ k,t7.ownBlock=some k->∃ x,wr.cell? ⟨k,0,none⟩=some (.bool x)
 tab:zCF wr tb.tp
theorem own_keptX {w w':World} {base e size n pt:Nat} {v:Value} {xs:List Value} {row:Option Nat} (h:w.ownsRow base e size v n xs) (hk:zBu pt row w w') (hp:pt<base) (hr:∀ k,row=some k->v.ownBlock≠some k):w'.ownsRow base e size v n xs:=by
 refine⟨h.1,?_⟩
 rcases h.2 with h2|⟨g,cap,cur,e1,hg,hh,rest⟩
 ·exact .inl h2
 ·refine .inr ⟨g,cap,cur,e1,hg,(hk.2.2.2.2 g (Array.getElem?_eq_some_iff.1 hh).1 (by omega) (fun e=>hr g e (by rw[e1];rfl))).trans hh,rest⟩
theorem own_turnX {w w':World} {base e size n tp:Nat} {v:Value} {xs:List Value} (h:w.ownsRow base e size v n xs) (hT:Turn tp w w') (hp:v.ownBlock≠some tp):w'.ownsRow base e size v n xs:=by
 refine⟨h.1,?_⟩
 rcases h.2 with h2|⟨g,cap,cur,e1,hg,hh,rest⟩
 ·exact .inl h2
 ·exact .inr ⟨g,cap,cur,e1,hg,(hT.2.2.2.2 g (Array.getElem?_eq_some_iff.1 hh).1 (fun e=>hp (by rw[e1,<-e];rfl))).trans hh,rest⟩
theorem ReadsN.turn {w w':World} {B pt size n tp:Nat} {A:Option Addr} {xs:List Value} (h:ReadsN w B pt size A n xs) (hT:Turn tp w w') (hA:0<n->∀ b off,A=some ⟨b,off,none⟩->b≠tp):ReadsN w' B pt size A n xs :=
 ⟨h.1,fun hn=>by
  obtain⟨b,off,e,h1,h2,h3⟩:=h.2 hn
  exact⟨b,off,e,h1,h2,fun j u hu=>hT.cell (hA hn b off e) (h3 j u hu)⟩⟩
theorem SrcG.turn {w w':World} {B:Nat} {t:Tb} {asked:Value} {na:Nat} {L:List Value} (h:SrcG w B t asked na L) (hT:Turn t.tp w w') (hB:FarT t) (hr:asked.ownBlock≠some t.tp):SrcG w' B t asked na L:=by
 have hle:=h.le
 have hlt:=h.lt
 have hk:w'.heap[t.pt]? =w.heap[t.pt]? :=hT.2.2.2.2 _ (by omega) hB.1
 exact⟨hlt,Nat.le_trans hle hT.2.2.2.1,fun j u hu=>(World.cell?_of_block (a:=⟨t.pt,j,none⟩) hk).trans (h.at0 j u hu),(World.frozen?_of_block (a:=⟨t.pt,1,none⟩) hk).trans h.fr,h.en.turn hT hB.2.1,h.tl.turn hT hB.2.2,own_turnX h.own hT hr⟩
theorem SrcG.grown {w w':World} {B:Nat} {t:Tb} {asked:Value} {na:Nat} {L:List Value} {row:Option Nat} (h:SrcG w B t asked na L) (hg:w.grownBy w' row) (h1:∀ k,row=some k->B<=k) (h3:∀ k,asked.ownBlock=some k->row≠some k):SrcG w' B t asked na L:=by
 have hle:=h.le
 have hlt:=h.lt
 have hk:∀ b,b<B->w'.heap[b]? =w.heap[b]? :=fun b hb=>hg.block b (by omega) (fun e=>by have:=h1 b e.symm;omega)
 refine⟨hlt,Nat.le_trans hle hg.size,fun j u hu=>(World.cell?_of_block (a:=⟨t.pt,j,none⟩) (hk _ hlt)).trans (h.at0 j u hu),(World.frozen?_of_block (a:=⟨t.pt,1,none⟩) (hk _ hlt)).trans h.fr,h.en.keep fun b h1 _=>hk b h1,h.tl.keep fun b h1 _=>hk b h1,h.own.kept hg ?_⟩
 cases ho:asked.ownBlock with
 | none=>exact .inl rfl
 | some k=>exact .inr (fun e=>h3 k ho e.symm)
theorem zBn.grownX {pt tp:Nat} {row row':Option Nat} {w w1 w2:World} (h:zBn pt tp row w w1) (hg:w1.grownBy w2 row') (hr:∀ k,row'=some k->w.heap.size<=k):zBn pt tp row w w2 :=
 ⟨hg.os.trans h.1,hg.tape.trans h.2.1,hg.output.trans h.2.2.1,Nat.le_trans h.2.2.2.1 hg.size,fun k hk hp ht hn=>(hg.block k (Nat.lt_of_lt_of_le hk h.2.2.2.1) (fun e=>by have:=hr k e.symm;omega)).trans (h.2.2.2.2 k hk hp ht hn)⟩
theorem ask_boolX {w:World} {B:Nat} {tb:Tb} {asked:Value} {na:Nat} {L:List Value} (h:SrcG w B tb asked na L) (hl:(∃ aks,L=zBi Ak.cells aks)/\(na=0->asked.ownBlock=none)) (k:Nat) (hk:asked.ownBlock=some k):∃ x,w.cell? ⟨k,0,none⟩=some (.bool x):=by
 obtain⟨⟨aks,rfl⟩,h0⟩:=hl
 have hn:0<na:=Nat.pos_of_ne_zero fun e=>by rw[h0 e] at hk;cases hk
 obtain⟨g,c,rfl,-,-,-,-,hcl,-⟩:=zAf h.own hn
 cases hk
 match aks with
 | []=>have:=h.own.1;simp[zBi] at this;omega
 | a::r=>exact⟨a.host,hcl 0 _ rfl⟩
theorem row_boolX {w:World} {base e:Nat} {v:Value} {pl:List (Arg×List En)} (h:w.ownsRow base e 11 v pl.length (zBi Arg.cells (pl.map Prod.fst))) (hp:pl≠[]) (k:Nat) (hk:v.ownBlock=some k):∃ x,w.cell? ⟨k,0,none⟩=some (.bool x):=by
 obtain⟨g,c,rfl,-,-,-,-,hcl,-⟩:=zAf h (by have:=List.length_pos_iff.2 hp;omega)
 cases hk
 match pl,hp with
 | a::r,_=>exact⟨a.1.many,hcl 0 _ rfl⟩
section
variable {w1 wr X w3:World} {B:Nat} {tb:Tb} {ask0 t7 t7':Value} {pl pl':List (Arg×List En)} {asked asked2:Value} {na na2:Nat} {L L2:List Value}
theorem WX.cell (h:WX w1 wr B tb ask0 t7 pl asked na L) {b i:Nat} {u:Value} (hp:b≠tb.pt) (ht:b≠tb.tp) (hr:ask0.ownBlock≠some b) (hc:w1.cell? ⟨b,i,none⟩=some u):wr.cell? ⟨b,i,none⟩=some u:=h.kept.cell hp ht hr hc
theorem WX.below (h:WX w1 wr B tb ask0 t7 pl asked na L) (hb:Below wr.heap.size wr X):WX w1 X B tb ask0 t7 pl asked na L :=
 ⟨h.src.below hb,h.kept.below hb,h.row,zA7 h.own hb,h.ne,fun p hp=>(h.ents p hp).below hb,h.wf,h.sz,h.far,h.lf,fun k hk=>by obtain⟨x,hx⟩:=h.bl k hk;exact⟨x,cell_below hx hb⟩,h.tab.below hb⟩
theorem WX.askNe (h:WX w1 wr B tb ask0 t7 pl asked na L):asked.ownBlock≠some tb.tp:=by
 rcases h.row with hr|hr
 ·rw[hr];exact h.far.2.2
 ·intro e
  have h1:=hr _ e
  have h2:=h.far.2.1
  omega
theorem WX.t7Ne (h:WX w1 wr B tb ask0 t7 pl asked na L):t7.ownBlock≠some tb.tp:=fun e=>by
 have h1:=(h.own.lt _ e).1
 have h2:=h.far.2.1
 omega
theorem EntsIn.turn {base:Nat} {w w':World} {asked t7:Value} {p:Arg×List En} {tp:Nat} (h:EntsIn base w asked t7 p) (hT:Turn tp w w') (ht:tp<base):EntsIn base w' asked t7 p :=
 ⟨h.1,fun hn=>by
  obtain⟨b,off,e,h1,h2,h3,h4,h5⟩:=h.2 hn
  exact⟨b,off,e,h1,Nat.lt_of_lt_of_le h2 hT.2.2.2.1,h3,h4,fun i u hu=>hT.cell (by omega) (h5 i u hu)⟩⟩
theorem WX.turnT (h:WX w1 wr B tb ask0 t7 pl asked na L) (hT:Turn tb.tp wr w3) (htab:zCF w3 tb.tp):WX w1 w3 B tb ask0 t7 pl asked na L :=
 ⟨h.src.turn hT h.far.1 h.askNe,h.kept.trans (.of_turn hT) (.inl rfl),h.row,own_turnX h.own hT h.t7Ne,h.ne,fun p hp=>(h.ents p hp).turn hT h.far.2.1,h.wf,h.sz,h.far,h.lf,fun k hk=>by obtain⟨x,hx⟩:=h.bl k hk;exact⟨x,hT.cell (fun e=>h.t7Ne (e ▸ hk)) hx⟩,htab⟩
theorem WX.step (h:WX w1 wr B tb ask0 t7 pl asked na L) (hB1:B<=w1.heap.size) (hb:Below wr.heap.size wr X) (hgrow:X.grownBy w3 t7.ownBlock) (hown:w3.ownsRow w1.heap.size 91 11 t7' pl'.length (zBi Arg.cells (pl'.map Prod.fst)))
  (hat:∀ k,t7'.ownBlock=some k->t7.ownBlock=some k∨X.heap.size<=k) (hE:∀ p∈pl',EntsIn w1.heap.size X asked t7 p) (hwf:∀ p∈pl',WfP p) (hsz:∀ p∈pl',SzP p) (hp0:pl'≠[]):WX w1 w3 B tb ask0 t7' pl' asked na L:=by
 have hrow:∀ k,t7.ownBlock=some k->w1.heap.size<=k:=fun k hk=>(h.own.lt k hk).1
 have hs:=hb.size
 refine⟨(h.src.below hb).grown hgrow (fun k hk=>Nat.le_trans hB1 (hrow k hk)) h.ne,(h.kept.below hb).grownX hgrow hrow,h.row,hown,fun k hk e=> ?_,fun p hp=>⟨(hE p hp).1,fun hn=> ?_⟩,hwf,hsz,h.far,h.lf,fun k hk=>row_boolX hown hp0 k hk,(h.tab.below hb).apart hgrow.size fun k hk hno=>hgrow.block k hk fun e=>hno ?_⟩
 ·have hk2:=(h.src.own.lt k hk).2
  rcases hat k e with h1|h1
  ·exact h.ne k hk h1
  ·omega
 ·obtain⟨b,off,e,h1,h2,h3,h4,h5⟩:=(hE p hp).2 hn
  have hbl:w3.heap[b]? =X.heap[b]? :=hgrow.block b h2 (fun e=>h4 e.symm)
  refine⟨b,off,e,h1,Nat.lt_of_lt_of_le h2 hgrow.size,h3,fun e2=> ?_,fun i u hu=>(World.cell?_of_block (a:=⟨b,off+i,none⟩) hbl).trans (h5 i u hu)⟩
  rcases hat b e2 with h6|h6
  ·exact h4 h6
  ·omega
 ·obtain⟨x,hx⟩:=h.bl k e.symm
  exact .inl ⟨x,cell_below hx hb⟩
theorem WX.turn (h:WX w1 wr B tb ask0 t7 pl asked na L) (hB1:B<=w1.heap.size) (hb:Below wr.heap.size wr X) (hs:SrcG w3 B tb asked2 na2 L2) (hk:zBu tb.pt asked.ownBlock X w3)
  (hw:asked2.ownBlock=asked.ownBlock∨∀ k,asked2.ownBlock=some k->X.heap.size<=k) (hlf:(∃ aks,L2=zBi Ak.cells aks)/\(na2=0->asked2.ownBlock=none)):WX w1 w3 B tb ask0 t7 pl asked2 na2 L2:=by
 have s1:=hb.size
 have s2:=h.kept.2.2.2.1
 have hp:tb.pt<w1.heap.size:=Nat.lt_of_lt_of_le h.src.lt hB1
 refine⟨hs,(h.kept.below hb).trans (zBn.of_two hk) h.row,?_,own_keptX (zA7 h.own hb) hk hp h.ne,fun k hk2 e=> ?_,fun p hp2=>⟨(h.ents p hp2).1,fun hn=> ?_⟩,h.wf,h.sz,h.far,hlf,fun k hk2=> ?_,(h.tab.below hb).apart hk.2.2.2.1 fun k hk1 hno=>hk.2.2.2.2 k hk1 (fun e=>hno ?_) fun e=>hno ?_⟩
 ·rcases hw with hw|hw
  ·rw[hw];exact h.row
  ·exact .inr fun k hk2=>by have:=hw k hk2;omega
 ·rcases hw with hw|hw
  ·exact h.ne k (hw ▸ hk2) e
  ·have h1:=hw k hk2
   have h2:=(h.own.lt k e).2
   omega
 ·obtain⟨b,off,e,h1,h2,h3,h4,h5⟩:=((h.ents p hp2).below hb).2 hn
  have hbl:w3.heap[b]? =X.heap[b]? :=hk.2.2.2.2 b h2 (by omega) h3
  refine⟨b,off,e,h1,Nat.lt_of_lt_of_le h2 hk.2.2.2.1,fun e2=> ?_,h4,fun i u hu=>(World.cell?_of_block (a:=⟨b,off+i,none⟩) hbl).trans (h5 i u hu)⟩
  rcases hw with hw|hw
  ·exact h3 (hw ▸ e2)
  ·have:=hw b e2
   obtain⟨b2,off2,e3,_,h6,_⟩:=(h.ents p hp2).2 hn
   rw[e] at e3
   cases e3
   omega
 ·obtain⟨x,hx⟩:=h.bl k hk2
  exact⟨x,hk.cell (fun e=>by have:=(h.own.lt k hk2).1;omega) (fun e=>h.ne k e hk2) (cell_below hx hb)⟩
 ·rw[e]
  exact .inr (.inl ⟨_,_,_,cell_below (h.src.at0 0 _ rfl) hb⟩)
 ·obtain⟨x,hx⟩:=ask_boolX h.src h.lf k e
  exact .inl ⟨x,cell_below hx hb⟩
theorem WX.lfOne (h:WX w1 wr B tb ask0 t7 pl asked na L) (a:Ak) {v:Value} :(∃ aks,L++a.cells=zBi Ak.cells aks)/\(na+1=0->v.ownBlock=none):=by
 obtain⟨aks,rfl⟩:=h.lf.1
 exact⟨⟨aks++[a],by rw[zAC];simp[zBi]⟩,fun e=>absurd e (by omega)⟩
theorem WX.lfApp (h:WX w1 wr B tb ask0 t7 pl asked na L) (K:List Ak) (hz:na2=0->asked2=asked/\na=0):(∃ aks,L++zBi Ak.cells K=zBi Ak.cells aks)/\(na2=0->asked2.ownBlock=none):=by
 obtain⟨aks,rfl⟩:=h.lf.1
 exact⟨⟨aks++K,by rw[zAC]⟩,fun e=>by rw[(hz e).1];exact h.lf.2 (hz e).2⟩
end
def tellN (l:List Td) (n:Int):V:=match l.find? (fun e=>e.n==n) with
 | some e=>e.v
 | none=>⟨1,n,⟨#[]⟩,false,0⟩
def askG (tb:Tb) (text:Int):List It->V×List Ak
 | [.val v]=>if (zA5 v).2≠0 then (errG (zA5 v).2,[]) else if tb.hn then (errG 6,[])
   else ((if mayG (tellN tb.told (zA5 v).1)=false∨(tellN tb.told (zA5 v).1).code=1 then errG 8 else shortG text (tellN tb.told (zA5 v).1)),[akHost (zA5 v).1])
 | _=>(errG 8,[])
def tabP (s:ByteArray) (its:List It) (tx:Int):V:=tabX s (its.map It.arg) tx
def opG (text:Int) (k:Int) (its:List It):List It :=
 if k=1∨k=2 then its.take (its.length-1)++[.val (oneG k (its.getLastD (.val VO)).v)]
 else its.take (its.length-2)++[.val (twoG text k (its.getD (its.length-2) (.val VO)).v (its.getLastD (.val VO)).v)]
def zBv (tb:Tb) (text:Int) (its:List It) (x:Nx):List It×List Ak :=
 if x.kind=1 then (its++[.val (shortG text x.v)],[])
 else if x.kind=2 then (its++[.val (findN tb.ents x.row x.col)],[akCell x.row x.col])
 else if x.kind=3 then (its++[.rect x.top x.left x.bottom x.right (zCE tb.ents x.top x.left x.bottom x.right)],[akRect x.top x.left x.bottom x.right])
 else if x.kind=4 then (opG text x.op its,[])
 else if x.name=⟨#[65,83,75]⟩ then (its.take (its.length-x.args.toNat)++[.val (askG tb text (its.drop (its.length-x.args.toNat))).1],(askG tb text (its.drop (its.length-x.args.toNat))).2)
 else (its.take (its.length-x.args.toNat)++[.val (tabP x.name (its.drop (its.length-x.args.toNat)) text)],[])
def wGo (tb:Tb) (text:Int):List Nx->List It->List Ak->V×List Ak
 | [],its,ak=>((its.headD (.val VO)).v,ak)
 | x::xs,its,ak=>wGo tb text xs (zBv tb text its x).1 (ak++(zBv tb text its x).2)
theorem WX.pushP {w1 wr X w3:World} {B:Nat} {tb:Tb} {ask0 t7:Value} {pl:List (Arg×List En)} {asked:Value} {na:Nat} {L:List Value} {g cap:Nat} {p:Arg×List En} (h:WX w1 wr B tb ask0 t7 pl asked na L) (hB1:B<=w1.heap.size) (hb:Below wr.heap.size wr X) (hgrow:X.grownBy w3 t7.ownBlock)
  (hown:w3.ownsRow w1.heap.size 91 11 (.slice (some ⟨g,0,none⟩) (pl.length+1) cap) (pl.length+1) (zBi Arg.cells (pl.map Prod.fst)++p.1.cells)) (hat:t7.ownBlock=some g∨g=X.heap.size) (hE:EntsIn w1.heap.size X asked t7 p) (hwf:WfP p) (hsz:SzP p) :
  WX w1 w3 B tb ask0 (.slice (some ⟨g,0,none⟩) (pl.length+1) cap) (pl++[p]) asked na L:=by
 refine h.step hB1 hb hgrow (by rw[List.map_append,zAC,List.length_append];simpa [zBi] using hown) (fun k hk=> ?_) (fun q hq=> ?_) (fun q hq=> ?_) (fun q hq=> ?_) (by simp)
 ·have e:g=k:=by simpa [Value.ownBlock] using hk
  subst e
  rcases hat with h1|h1
  ·exact .inl h1
  ·exact .inr (by omega)
 ·rcases List.mem_append.1 hq with hq|hq
  ·exact(h.ents q hq).below hb
  ·rw[List.mem_singleton.1 hq];exact hE
 ·rcases List.mem_append.1 hq with hq|hq
  ·exact h.wf q hq
  ·rw[List.mem_singleton.1 hq];exact hwf
 ·rcases List.mem_append.1 hq with hq|hq
  ·exact h.sz q hq
  ·rw[List.mem_singleton.1 hq];exact hsz
theorem sz_vArg {v:V} (h:SzV v):SzP (vArg v,[]):=⟨h,Nat.zero_le _,fun e he=>by cases he⟩
theorem WX.pushV {w1 wr X w3:World} {B:Nat} {tb:Tb} {ask0 t7:Value} {pl:List (Arg×List En)} {asked:Value} {na:Nat} {L:List Value} {g cap:Nat} {v:V} (h:WX w1 wr B tb ask0 t7 pl asked na L) (hB1:B<=w1.heap.size) (hb:Below wr.heap.size wr X) (hgrow:X.grownBy w3 t7.ownBlock)
  (hown:w3.ownsRow w1.heap.size 91 11 (.slice (some ⟨g,0,none⟩) (pl.length+1) cap) (pl.length+1) (zBi Arg.cells (pl.map Prod.fst)++(vArg v).cells)) (hat:t7.ownBlock=some g∨g=X.heap.size) (hv:SzV v) :
  WX w1 w3 B tb ask0 (.slice (some ⟨g,0,none⟩) (pl.length+1) cap) (pl++[(vArg v,[])]) asked na L :=
 h.pushP hB1 hb hgrow hown hat (entsIn_val _ _ _ _ v) (wf_val v) (sz_vArg hv)
theorem zBY (pl:List (Arg×List En)) (p:Arg×List En):(pl++[p]).map zAH=pl.map zAH++[zAH p]:=by simp
def setV (w:World) (g o:Nat) (v:V):World:=((((w.setCell ⟨g,o,none⟩ (.int .i64 v.tag)).setCell ⟨g,o+1,none⟩ (.int .i64 v.num)).setCell ⟨g,o+2,none⟩ (.string v.str)).setCell ⟨g,o+3,none⟩ (.bool v.is)).setCell ⟨g,o+4,none⟩ (.int .i64 v.code)
theorem set_atX (p l:List Value) (i:Nat) (u:Value) (n:Nat) (h:n=p.length+i):(p++l).set n u=p++l.set i u:=by
 subst h
 rw[List.set_append_right _ _ (by omega)]
 congr 2
 omega
theorem own_setV {w:World} {base g cap n:Nat} {e:TypeId} (pre post:List Arg) (a v:V) (h:w.ownsRow base e 11 (.slice (some ⟨g,0,none⟩) n cap) n (zBi Arg.cells (pre++vArg a::post))) :
  (setV w g (pre.length*11+1) v).ownsRow base e 11 (.slice (some ⟨g,0,none⟩) n cap) n (zBi Arg.cells (pre++vArg v::post)):=by
 have h1:=(h.stored (pre.length*11+1) (.int .i64 v.tag)).1
 have h2:=(h1.stored (pre.length*11+1+1) (.int .i64 v.num)).1
 have h3:=(h2.stored (pre.length*11+1+2) (.string v.str)).1
 have h4:=(h3.stored (pre.length*11+1+3) (.bool v.is)).1
 have h5:=(h4.stored (pre.length*11+1+4) (.int .i64 v.code)).1
 have hp:(zBi Arg.cells pre).length=pre.length*11:=zAD Arg.cells 11 Arg.cells_length pre
 have e1:zBi Arg.cells (pre++vArg a::post)=zBi Arg.cells pre++((vArg a).cells++zBi Arg.cells post):=by rw[zAC];simp[zBi]
 have e2:zBi Arg.cells (pre++vArg v::post)=zBi Arg.cells pre++((vArg v).cells++zBi Arg.cells post):=by rw[zAC];simp[zBi]
 rw[e1,set_atX _ _ 1 _ _ (by omega),set_atX _ _ 2 _ _ (by omega),set_atX _ _ 3 _ _ (by omega),set_atX _ _ 4 _ _ (by omega),set_atX _ _ 5 _ _ (by omega)] at h5
 rw[e2]
 exact h5
theorem grown_setV (w:World) (g o:Nat) (v:V):w.grownBy (setV w g o v) (some g):=by
 have ht:∀ {a b c:World},a.grownBy b (some g)->b.grownBy c (some g)->a.grownBy c (some g):=fun h1 h2 =>
  ⟨h2.os.trans h1.os,h2.tape.trans h1.tape,h2.output.trans h1.output,Nat.le_trans h1.size h2.size,fun k hk hne=>(h2.block k (Nat.lt_of_lt_of_le hk h1.size) hne).trans (h1.block k hk hne)⟩
 exact ht (ht (ht (ht (grown_set _ _ _ _) (grown_set _ _ _ _)) (grown_set _ _ _ _)) (grown_set _ _ _ _)) (grown_set _ _ _ _)
theorem setV_size (w:World) (g o:Nat) (v:V):(setV w g o v).heap.size=w.heap.size:=by simp[setV]
section
variable {w1 wr wx:World} {B:Nat} {tb:Tb} {ask0:Value} {pre:List (Arg×List En)} {asked:Value} {na g cc:Nat} {L:List Value} {a b v:V}
theorem WX.op1 (h:WX w1 wr B tb ask0 (.slice (some ⟨g,0,none⟩) (pre.length+1) cc) (pre++[(vArg a,[])]) asked na L) (hB1:B<=w1.heap.size) (hv:SzV v)
  (hb:Below wr.heap.size (setV wr g (pre.length*11+1) v) wx):WX w1 wx B tb ask0 (.slice (some ⟨g,0,none⟩) (pre.length+1) cc) (pre++[(vArg v,[])]) asked na L:=by
 have hown:=h.own
 have hl:∀ u:V,(pre++[(vArg u,([]:List En))]).length=pre.length+1:=fun u=>by simp
 have hm:∀ u:V,(pre++[(vArg u,([]:List En))]).map Prod.fst=pre.map Prod.fst++vArg u::[]:=fun u=>by simp
 rw[hl,hm] at hown
 have h5:=own_setV (pre.map Prod.fst) [] a v hown
 rw[List.length_map] at h5
 rw[<- setV_size wr g (pre.length*11+1) v] at hb
 refine(h.step (pl':=pre++[(vArg v,[])]) hB1 (Below.refl _ _) (grown_setV wr g (pre.length*11+1) v) (by rw[hl,hm];exact h5) (fun k hk=>.inl hk) (fun p hp=> ?_) (fun p hp=> ?_) (fun p hp=> ?_) (by simp)).below hb
 ·rcases List.mem_append.1 hp with hp|hp
  ·exact h.ents p (List.mem_append_left _ hp)
  ·rw[List.mem_singleton.1 hp];exact entsIn_val _ _ _ _ v
 ·rcases List.mem_append.1 hp with hp|hp
  ·exact h.wf p (List.mem_append_left _ hp)
  ·rw[List.mem_singleton.1 hp];exact wf_val v
 ·rcases List.mem_append.1 hp with hp|hp
  ·exact h.sz p (List.mem_append_left _ hp)
  ·rw[List.mem_singleton.1 hp];exact sz_vArg hv
theorem WX.op2 (h:WX w1 wr B tb ask0 (.slice (some ⟨g,0,none⟩) (pre.length+2) cc) (pre++[(vArg a,[]),(vArg b,[])]) asked na L) (hB1:B<=w1.heap.size) (hv:SzV v)
  (hb:Below wr.heap.size (setV wr g (pre.length*11+1) v) wx):WX w1 wx B tb ask0 (.slice (some ⟨g,0,none⟩) (pre.length+1) cc) (pre++[(vArg v,[])]) asked na L:=by
 have hown:=h.own
 have hl2:(pre++[(vArg a,([]:List En)),(vArg b,[])]).length=pre.length+2:=by simp
 have hm2:(pre++[(vArg a,([]:List En)),(vArg b,[])]).map Prod.fst=pre.map Prod.fst++vArg a::[vArg b]:=by simp
 have hl:(pre++[(vArg v,([]:List En))]).length=pre.length+1:=by simp
 have hm:(pre++[(vArg v,([]:List En))]).map Prod.fst=pre.map Prod.fst++[vArg v]:=by simp
 rw[hl2,hm2] at hown
 have h5:=own_setV (pre.map Prod.fst) [vArg b] a v hown
 rw[List.length_map] at h5
 have e2:zBi Arg.cells (pre.map Prod.fst++vArg v::[vArg b])=zBi Arg.cells (pre.map Prod.fst++[vArg v])++(vArg b).cells:=by rw[zAC,zAC];simp[zBi]
 rw[e2] at h5
 have h6:=ownsRow_pop (n:=pre.length+1) (by rw[zAD Arg.cells 11 Arg.cells_length];simp) h5
 rw[<- setV_size wr g (pre.length*11+1) v] at hb
 refine(h.step (t7':=.slice (some ⟨g,0,none⟩) (pre.length+1) cc) (pl':=pre++[(vArg v,[])]) hB1 (Below.refl _ _) (grown_setV wr g (pre.length*11+1) v) (by rw[hl,hm];exact h6) (fun k hk=>.inl hk) (fun p hp=> ?_) (fun p hp=> ?_) (fun p hp=> ?_) (by simp)).below hb
 ·rcases List.mem_append.1 hp with hp|hp
  ·exact h.ents p (List.mem_append_left _ hp)
  ·rw[List.mem_singleton.1 hp];exact entsIn_val _ _ _ _ v
 ·rcases List.mem_append.1 hp with hp|hp
  ·exact h.wf p (List.mem_append_left _ hp)
  ·rw[List.mem_singleton.1 hp];exact wf_val v
 ·rcases List.mem_append.1 hp with hp|hp
  ·exact h.sz p (List.mem_append_left _ hp)
  ·rw[List.mem_singleton.1 hp];exact sz_vArg hv
end
theorem opG_one {text k:Int} (hu:k=1∨k=2) (its:List It) (a:V):opG text k (its++[.val a])=its++[.val (oneG k a)]:=by
 unfold opG
 rw[if_pos hu]
 simp[It.v]
theorem opG_two {text k:Int} (hu: ¬ (k=1∨k=2)) (its:List It) (a b:V):opG text k (its++[.val a,.val b])=its++[.val (twoG text k a b)]:=by
 have e:(its++[It.val a,.val b]).length=its.length+2:=by simp
 unfold opG
 rw[if_neg hu,e]
 simp[It.v]
theorem setV_at {w:World} {q:Nat} {v:V} (h:∀ i,i<5->(w.cell? ⟨q,i,none⟩).isSome=true):AtB (setV w q 0 v) q [.int .i64 v.tag,.int .i64 v.num,.string v.str,.bool v.is,.int .i64 v.code]:=by
 have hs:∀ (W:World) (j:Nat) (u:Value),(∀ i,i<5->(W.cell? ⟨q,i,none⟩).isSome=true)->∀ i,i<5->((W.setCell ⟨q,j,none⟩ u).cell? ⟨q,i,none⟩).isSome=true:=fun W j u hW i hi=>by
  by_cases e:i=j
  ·subst e;rw[zAa (hW i hi)];rfl
  ·rw[World.cell?_setCell_other _ _ _ _ (by simp[e])];exact hW i hi
 have k0:=hs w 0 (.int .i64 v.tag) h
 have k1:=hs _ (0+1) (.int .i64 v.num) k0
 have k2:=hs _ (0+2) (.string v.str) k1
 have k3:=hs _ (0+3) (.bool v.is) k2
 intro j u hu
 unfold setV
 match j,hu with
 | 0,hu =>
   cases hu
   rw[World.cell?_setCell_other _ _ _ _ (by simp),World.cell?_setCell_other _ _ _ _ (by simp),World.cell?_setCell_other _ _ _ _ (by simp),World.cell?_setCell_other _ _ _ _ (by simp)]
   exact zAa (h 0 (by omega))
 | 1,hu =>
   cases hu
   rw[World.cell?_setCell_other _ _ _ _ (by simp),World.cell?_setCell_other _ _ _ _ (by simp),World.cell?_setCell_other _ _ _ _ (by simp)]
   exact zAa (k0 1 (by omega))
 | 2,hu =>
   cases hu
   rw[World.cell?_setCell_other _ _ _ _ (by simp),World.cell?_setCell_other _ _ _ _ (by simp)]
   exact zAa (k1 2 (by omega))
 | 3,hu =>
   cases hu
   rw[World.cell?_setCell_other _ _ _ _ (by simp)]
   exact zAa (k2 3 (by omega))
 | 4,hu =>
   cases hu
   exact zAa (k3 4 (by omega))
 | _+5,hu=>cases hu
theorem turn_setV {w w':World} {tp b:Nat} {v:V} (h:Turn tp w w') (hb:w.heap.size<=b):Turn tp w (setV w' b 0 v):=by
 have g:=grown_setV w' b 0 v
 refine⟨g.os.trans h.1,g.tape.trans h.2.1,g.output.trans h.2.2.1,Nat.le_trans h.2.2.2.1 g.size,fun k hk hn=>(g.block k (Nat.lt_of_lt_of_le hk h.2.2.2.1) fun e=> ?_).trans (h.2.2.2.2 k hk hn)⟩
 have e2:=Option.some.inj e
 omega
theorem tab_setV {w:World} {tp b:Nat} {v:V} (h:zCF w tp) (hz:w.heap[b]? =some zeroV):zCF (setV w b 0 v) tp:=by
 have g:=grown_setV w b 0 v
 exact h.apart g.size fun k hk hno=>g.block k hk fun e=>hno (.inr (.inr (by rw[Option.some.inj e];exact hz)))
theorem AtB.some5 {w:World} {q:Nat} {a b c d e:Value} (h:AtB w q [a,b,c,d,e]):∀ i,i<5->(w.cell? ⟨q,i,none⟩).isSome=true:=fun i hi=>by
 match i,hi with
 | 0,_=>rw[h 0 _ rfl];rfl
 | 1,_=>rw[h 1 _ rfl];rfl
 | 2,_=>rw[h 2 _ rfl];rfl
 | 3,_=>rw[h 3 _ rfl];rfl
 | 4,_=>rw[h 4 _ rfl];rfl
 | _+5,h=>exact absurd h (by omega)
section
variable {w1 wr X:World} {B:Nat} {tb:Tb} {ask0 t7:Value} {pre args:List (Arg×List En)} {asked:Value} {na g cc:Nat} {L:List Value}
theorem WX.pop (h:WX w1 wr B tb ask0 (.slice (some ⟨g,0,none⟩) (pre.length+args.length) cc) (pre++args) asked na L):WX w1 wr B tb ask0 (.slice (some ⟨g,0,none⟩) pre.length cc) pre asked na L:=by
 have hown:=h.own
 rw[List.length_append] at hown
 have h1:=pop_flat Arg.cells Arg.cells_length (m:=pre.length) ((pre++args).map Prod.fst) (by simp) (by omega) hown
 rw[List.map_append,List.take_append_of_le_length (by simp),List.take_of_length_le (by simp)] at h1
 exact⟨h.src,h.kept,h.row,h1,h.ne,fun p hp=>h.ents p (List.mem_append_left _ hp),fun p hp=>h.wf p (List.mem_append_left _ hp),fun p hp=>h.sz p (List.mem_append_left _ hp),h.far,h.lf,h.bl,h.tab⟩
theorem WX.lawIn {Y:World} (h:WX w1 wr B tb ask0 t7 (pre++args) asked na L) (hb:Below wr.heap.size wr X) (hT:Turn tb.tp X Y) (h16:args.length<=16) (hP:zBs Y) (hM:MaxL Y) (A:Option Addr) (c:Nat) (hc:args.length<=c)
  (hA:0<args.length->∃ n cc,t7=.slice (some ⟨g,0,none⟩) n cc/\A=some ⟨g,pre.length*11,none⟩):LawIn Y args A args.length c:=by
 refine⟨⟨by rw[zAo,List.length_map],fun hn=> ?_⟩,fun p hp=>(((h.ents p (List.mem_append_right _ hp)).below hb).turn hT h.far.2.1).at,by omega,hc,fun p hp=> ?_,fun p hp=> ?_,fun p hp=>(h.sz p (List.mem_append_right _ hp)).2.1,hP,hM⟩
 ·obtain⟨n,cc,rfl,rfl⟩:=hA hn
  have hx:=own_turnX (zA7 h.own hb) hT h.t7Ne
  have hl:(pre++args).length=pre.length+args.length:=by simp
  rw[hl] at hx
  obtain⟨g',c',e1,-,-,-,hg2,hcl,-⟩:=zAf hx (by omega)
  cases e1
  refine⟨g,_,rfl,hg2,fun j u hu=> ?_⟩
  refine hcl _ u ?_
  rw[List.map_append,zAC,List.getElem?_append_right (by rw[zAD Arg.cells 11 Arg.cells_length,List.length_map];omega),zAD Arg.cells 11 Arg.cells_length,List.length_map]
  rw[show pre.length*11+j-pre.length*11=j by omega]
  exact hu
 ·have hs:=h.sz p (List.mem_append_right _ hp)
  exact⟨hs.1.1,fun e he=>(hs.2.2 e he).1⟩
 ·have hs:=h.sz p (List.mem_append_right _ hp)
  exact⟨hs.1.2,fun e he=>(hs.2.2 e he).2⟩
theorem WX.call (h:WX w1 wr B tb ask0 t7 (pre++args) asked na L) (hlib:∀ w',zBn tb.pt tb.tp ask0.ownBlock w1 w'->zBs w'/\MaxL w') (hb:Below wr.heap.size wr X) (h16:args.length<=16) (A:Option Addr) (c:Nat) (hc:args.length<=c)
  (hA:0<args.length->∃ n cc,t7=.slice (some ⟨g,0,none⟩) n cc/\A=some ⟨g,pre.length*11,none⟩) (s:ByteArray) (tx:Int) :
  Calls Tryz.prog 26 #[.pointer (some ⟨tb.tp,0,none⟩),.string s,.slice A args.length c,.int .i64 tx] X fun e w'=>e=.returned (vG (tabX s args tx))/\Ready w' tb.tp/\Turn tb.tp X w':=by
 have hl:∀ Y,Turn tb.tp X Y->LawIn Y args A args.length c:=fun Y hT=>by
  have h1:=hlib Y ((h.kept.below hb).trans (.of_turn (row:=ask0.ownBlock) hT) (.inl rfl))
  exact h.lawIn hb hT h16 h1.1 h1.2 A c hc hA
 refine(hl X (Turn.refl _ _)).tableF tb.tp (h.tab.below hb) (fun hn p hp e=> ?_) hl s tx
 obtain⟨n,cc,e1,e2⟩:=hA hn
 rw[e2] at hp
 cases hp
 exact h.t7Ne (by rw[e1];exact congrArg some e)
end
theorem entsIn_own {base XS:Nat} {w:World} {asked t7 v:Value} {es:List En} (t l b r:Int) (hown:w.ownsRow XS 57 7 v es.length (zBi En.cells es)) (hb:base<=XS) (hne:∀ k,v.ownBlock=some k->asked.ownBlock≠some k) (ht:∀ k,t7.ownBlock=some k->k<XS) :
  ∃ A c,v=.slice A es.length c/\EntsIn base w asked t7 (rArg t l b r A es.length c,es):=by
 rcases own_formX hown with ⟨rfl,hn⟩|⟨g,c,rfl,hc1,hc2,hg⟩
 ·exact⟨none,0,by rw[hn],rfl,fun h=>absurd h (by show ¬ 0<es.length;omega)⟩
 ·refine⟨some ⟨g,0,none⟩,c,rfl,rfl,fun h=> ?_⟩
  obtain⟨g',c',e1,-,-,hg1,hg2,hcl,-⟩:=zAf hown h
  cases e1
  exact⟨g,0,rfl,Nat.le_trans hb hg1,hg2,hne g rfl,fun e=>by have:=ht g e;omega,fun i u hu=>by rw[Nat.zero_add];exact hcl i u hu⟩
theorem rectN_sz {l:List En} {t le b r:Int} (h:∀ e∈l,SzV e.v):∀ e∈zCE l t le b r,SzV e.v:=fun e he=>h e (List.mem_filter.1 he).1
theorem sz_rArg {t l b r:Int} {A:Option Addr} {n c:Nat} {es:List En} (hn:n<=1048576) (h:∀ e∈es,SzV e.v):SzP (rArg t l b r A n c,es):=⟨⟨show Is64 0 by unfold Is64;decide,Nat.zero_le _⟩,hn,h⟩
theorem wf_rArg (t l b r:Int) (A:Option Addr) (n c:Nat) (es:List En):WfP (rArg t l b r A n c,es):=⟨(fun h=>by cases h),fun _=>rfl⟩
theorem WX.argAt {w1 wr X:World} {B:Nat} {tb:Tb} {ask0:Value} {pre args:List (Arg×List En)} {asked:Value} {na g n cc:Nat} {L:List Value} (h:WX w1 wr B tb ask0 (.slice (some ⟨g,0,none⟩) n cc) (pre++args) asked na L) (hb:Below wr.heap.size wr X) (p:Arg×List En) (hp:args[0]? =some p) :
  ∀ i u,p.1.cells[i]? =some u->X.cell? ⟨g,pre.length*11+i,none⟩=some u:=fun i u hu=>by
 have hx:=zA7 h.own hb
 have hl:0<args.length:=(List.getElem?_eq_some_iff.1 hp).1
 obtain⟨g',c',e1,-,-,-,-,hcl,-⟩:=zAf hx (by simp;omega)
 cases e1
 exact hcl _ u (zA9 Arg.cells 11 Arg.cells_length _ pre.length p.1 (by rw[List.map_append,List.getElem?_append_right (by simp),List.length_map,Nat.sub_self,List.getElem?_map,hp];rfl) i u hu)
def NxW (x:Nx) (its:List It) (bn off n c j pe:Nat) (w1:World) (B:Nat) (tb:Tb) (text:Int) (ask0:Value) (na:Nat) (L:List Value) (Qn:Act->World->Prop) (s1 s3 s4 s5 s6 s8 aC ag aA aJ aK aB aN aO aP aF aG aH aI:Value):Prop:=∀ ⦃v7 v9 jr kH kT o6 oZ og oh lM lN jV jW lQ jX jY jP jC lS jZ lT ja lU lV jQ lW jB jb jc lX jd jF je jD lY jf lZ jg lh jR jh lm mD ji jE jk jl jm mF mG jG mJ jH mM mO jS jT mP mQ mV mW mX mY mZ mf mg mi mr nC nD nG nH nI nJ nK nM nN nO nP nR jv jw jy kC kD jJ kE kF kG jU kJ kK kL kM kN kP kQ jK kR kS kU kV kW kX jL kY kZ jI ku kw kz lC lD lF lG lH lI lJ jM jO lK lL oM oN oO oP ng oQ oI oU:Value⦄ (pl':List (Arg×List En)) (asked':Value) (na':Nat) (L':List Value) (w':World),pl'.map zAH=(zBv tb text its x).1->L'=L++zBi Ak.cells (zBv tb text its x).2->na'<=na+1->WX w1 w' B tb ask0 v7 pl' asked' na' L'->Qn ⟨#[.pointer (some ⟨pe,0,none⟩),s1,.iface 31 (.pointer (some ⟨tb.pt,0,none⟩)),s3,s4,s5,s6,v7,s8,v9,jr,kH,kT,aC,ag,aA,aJ,aK,aB,aN,aO,aP,.slice (some ⟨bn,off,none⟩) n c,.int .i64 n,.int .i64 (j+1:Nat),o6,oZ,og,oh,lM,lN,jV,jW,lQ,jX,jY,jP,jC,lS,jZ,lT,ja,lU,lV,jQ,lW,jB,jb,jc,lX,jd,jF,je,jD,lY,jf,lZ,jg,lh,jR,jh,lm,mD,ji,jE,jk,jl,jm,mF,mG,jG,mJ,jH,mM,mO,jS,jT,mP,mQ,mV,mW,mX,mY,mZ,mf,mg,mi,mr,nC,nD,nG,nH,nI,nJ,nK,nM,nN,nO,nP,nR,jv,jw,jy,kC,kD,jJ,kE,kF,kG,jU,kJ,kK,kL,kM,kN,kP,kQ,jK,kR,kS,kU,kV,kW,kX,jL,kY,kZ,jI,ku,kw,kz,lC,lD,lF,lG,lH,lI,lJ,jM,jO,lK,lL,oM,oN,oO,oP,ng,oQ,oI,oU,aF,aG,aH,aI],[]⟩ w'
abbrev nObj (x:Nx) (a:Int):Obj:=.cells #[.int .i64 x.kind,.int .i64 x.v.tag,.int .i64 x.v.num,.string x.v.str,.bool x.v.is,.int .i64 x.v.code,.int .i64 x.row,.int .i64 x.col,.int .i64 x.top,.int .i64 x.left,.int .i64 x.bottom,.int .i64 x.right,.int .i64 x.op,.string x.name,.int .i64 a] 88
open Go.Lib renaming hid->zh
section
variable {s1 s3 s4 s5 s6 s8 s9 az bQ dA aC ag aA aJ aK aB aN aO aP ae iq iw jA dY dZ dh di dm dn dw eF eG eH eP eQ eU eX eY eu fA fB fC fD fE fF fG fH fJ ah fK fM fO fP fQ fU fV fZ gB gG gI gJ gK gQ gU gV gW gX gY gZ gm gp gq gu gy gz iC iD iE iG iH iJ iK iL iM iP iQ iR iT iU iW iY iZ ig ik bC bD bF bG bH bI bJ bK bM bP bT bU bV bZ bg bi bu cO cZ cu dB dC ai dD dE dF dG dH dI dJ dK dL dM dN dP dQ dR dS dU dV dW dX aS aQ aU aV aW aX aY aZ aF aG aH aI:Value}
def npQ (Q1:Exit->Act->World->Prop):Exit->Act->World->Prop:=fun e a w=>match e with
 | .panic _=>False
 | e=>Q1 e a w
theorem info_GX:(Tryz.prog.info? 91).map (fun i=>(i.zero,i.size,i.bytes))=some (some (.agg #[.bool false,.int .i64 0,.int .i64 0,.string ⟨#[]⟩,.bool false,.int .i64 0,.int .i64 0,.int .i64 0,.int .i64 0,.int .i64 0,.slice none 0 0]),11,112):=by kernel_rfl
theorem wkArm_value (x:Nx) (pl:List (Arg×List En)) (bn off n c j pe:Nat) (tp:Addr) (text:Int) (h:Value) (w1 wr:World) (B:Nat) (tb:Tb) (ask0 t7 asked:Value) (na:Nat) (L:List Value) (Qn:Act->World->Prop) (Q0:Exit->Act->World->Prop)
  (hW:WX w1 wr B tb ask0 t7 pl asked na L) (hB1:B<=w1.heap.size) (hpl:pl.length<=j) (hj:j<n) (hn:n<=1024) (hcell:∀ i u,x.cells[i]? =some u->wr.cell? ⟨bn,off+(j*15+i),none⟩=some u) (hE:AtB wr pe (zAc tp text h)) (hents:tb.ents.length<=1048576) (hna:na<=100000) (k1:x.kind=1) (hv:SzV (shortG text x.v))
  (hNx:NxW x (pl.map zAH) bn off n c j pe w1 B tb text ask0 na L Qn s1 s3 s4 s5 s6 s8 aC ag aA aJ aK aB aN aO aP aF aG aH aI) :
  Code.wp Tryz.prog ((Tryz.f11.body.bind zAY).getD .skip) (Exit.then Qn (npQ Q0)) ⟨#[.pointer (some ⟨pe,0,none⟩),s1,.iface 31 (.pointer (some ⟨tb.pt,0,none⟩)),s3,s4,s5,s6,t7,s8,s9,az,bQ,dA,aC,ag,aA,aJ,aK,aB,aN,aO,aP,.slice (some ⟨bn,off,none⟩) n c,.int .i64 n,.int .i64 j,ae,iq,iw,jA,dY,dZ,dh,di,dm,dn,dw,eF,eG,eH,eP,eQ,eU,eX,eY,eu,fA,fB,fC,fD,fE,fF,fG,fH,fJ,ah,fK,fM,fO,fP,fQ,fU,fV,fZ,gB,gG,gI,gJ,gK,gQ,gU,gV,gW,gX,gY,gZ,gm,gp,gq,gu,gy,gz,iC,iD,iE,iG,iH,iJ,iK,iL,iM,iP,iQ,iR,iT,iU,iW,iY,iZ,ig,ik,bC,bD,bF,bG,bH,bI,bJ,bK,bM,bP,bT,bU,bV,bZ,bg,bi,bu,cO,cZ,cu,dB,dC,ai,dD,dE,dF,dG,dH,dI,dJ,dK,dL,dM,dN,dP,dQ,dR,dS,dU,dV,dW,dX,aS,aQ,aU,aV,aW,aX,aY,aZ,aF,aG,aH,aI],[]⟩ wr:=by
 obtain⟨i0,hi,hz0,hz1,hz2⟩:=info_parts info_GX
 have c0:=hcell 0 _ rfl
 have c1:=hcell 1 _ rfl
 have c2:=hcell 2 _ rfl
 have c3:=hcell 3 _ rfl
 have c4:=hcell 4 _ rfl
 have c5:=hcell 5 _ rfl
 have c6:=hcell 6 _ rfl
 have c7:=hcell 7 _ rfl
 have c8:=hcell 8 _ rfl
 have c9:=hcell 9 _ rfl
 have c10:=hcell 10 _ rfl
 have c11:=hcell 11 _ rfl
 have c12:=hcell 12 _ rfl
 have c13:=hcell 13 _ rfl
 have c14:=hcell 14 _ rfl
 simp only[<- Nat.add_assoc,Nat.add_zero] at c0 c1 c2 c3 c4 c5 c6 c7 c8 c9 c10 c11 c12 c13 c14
 have HW:=zh hW
 have HNX:=zh @hNx
 have HE:=zh hE
 have hsz:=hW.kept.2.2.2.1
 clear hcell hNx hW hE
 conv=>arg 2;whnf
 have hst:zBv tb text (pl.map zAH) x=(pl.map zAH++[.val (shortG text x.v)],[]):=by unfold zBv;rw[if_pos k1]
 have HST:=zh hst
 clear hst
 have kk1:(x.kind==1)=true:=by simp[k1]
 have HV:=zh hv
 clear k1 hv
 go_wp2_with(first|(go_at_call 22;refine mB (eval_shortX pe tp text h x.v _ (HE.out.below bel)) ?_;intro l m)|(at_builtin;refine wpList_append_lies _ rfl _ _ 84 rfl w1.heap.size 91 i0 _ 11 112 Tryz.underlying84 hi hz0 hz1 hz2 (by rfl) (by decide) _ _ _ (by rfl) (zA7 HW.out.own bel) _ 1 1 ((vArg (shortG text x.v)).cells) (by rfl) (by rfl) (by exact fun i u hu=>zAJ (by simp) i u hu) (Arg.cells_one _) (by decide) (by simp only[maxLen];omega) (by omega) (by simp;omega) _ rfl ?_;intro g cap w3 hown hgrow hat hlt3;have HR3:=zh (WX.pushV HW.out hB1 bel hgrow hown hat HV.out);clear hown hgrow hat))
 exact HNX.out (pl++[(vArg (shortG text x.v),[])]) asked na L _ (by rw[HST.out,zBY];rfl) (by rw[HST.out];first|rfl|simp[zBi]) (by omega) HR3.out
theorem wkArm_cell (x:Nx) (pl:List (Arg×List En)) (bn off n c j pe:Nat) (tp:Addr) (text:Int) (h:Value) (w1 wr:World) (B:Nat) (tb:Tb) (ask0 t7 asked:Value) (na:Nat) (L:List Value) (Qn:Act->World->Prop) (Q0:Exit->Act->World->Prop)
  (hW:WX w1 wr B tb ask0 t7 pl asked na L) (hB1:B<=w1.heap.size) (hpl:pl.length<=j) (hj:j<n) (hn:n<=1024) (hcell:∀ i u,x.cells[i]? =some u->wr.cell? ⟨bn,off+(j*15+i),none⟩=some u) (hE:AtB wr pe (zAc tp text h)) (hents:tb.ents.length<=1048576) (hna:na<=100000) (k2:x.kind=2) (hv:SzV (findN tb.ents x.row x.col))
  (hNx:NxW x (pl.map zAH) bn off n c j pe w1 B tb text ask0 na L Qn s1 s3 s4 s5 s6 s8 aC ag aA aJ aK aB aN aO aP aF aG aH aI) :
  Code.wp Tryz.prog ((Tryz.f11.body.bind zAY).getD .skip) (Exit.then Qn (npQ Q0)) ⟨#[.pointer (some ⟨pe,0,none⟩),s1,.iface 31 (.pointer (some ⟨tb.pt,0,none⟩)),s3,s4,s5,s6,t7,s8,s9,az,bQ,dA,aC,ag,aA,aJ,aK,aB,aN,aO,aP,.slice (some ⟨bn,off,none⟩) n c,.int .i64 n,.int .i64 j,ae,iq,iw,jA,dY,dZ,dh,di,dm,dn,dw,eF,eG,eH,eP,eQ,eU,eX,eY,eu,fA,fB,fC,fD,fE,fF,fG,fH,fJ,ah,fK,fM,fO,fP,fQ,fU,fV,fZ,gB,gG,gI,gJ,gK,gQ,gU,gV,gW,gX,gY,gZ,gm,gp,gq,gu,gy,gz,iC,iD,iE,iG,iH,iJ,iK,iL,iM,iP,iQ,iR,iT,iU,iW,iY,iZ,ig,ik,bC,bD,bF,bG,bH,bI,bJ,bK,bM,bP,bT,bU,bV,bZ,bg,bi,bu,cO,cZ,cu,dB,dC,ai,dD,dE,dF,dG,dH,dI,dJ,dK,dL,dM,dN,dP,dQ,dR,dS,dU,dV,dW,dX,aS,aQ,aU,aV,aW,aX,aY,aZ,aF,aG,aH,aI],[]⟩ wr:=by
 obtain⟨i0,hi,hz0,hz1,hz2⟩:=info_parts info_GX
 have c0:=hcell 0 _ rfl
 have c1:=hcell 1 _ rfl
 have c2:=hcell 2 _ rfl
 have c3:=hcell 3 _ rfl
 have c4:=hcell 4 _ rfl
 have c5:=hcell 5 _ rfl
 have c6:=hcell 6 _ rfl
 have c7:=hcell 7 _ rfl
 have c8:=hcell 8 _ rfl
 have c9:=hcell 9 _ rfl
 have c10:=hcell 10 _ rfl
 have c11:=hcell 11 _ rfl
 have c12:=hcell 12 _ rfl
 have c13:=hcell 13 _ rfl
 have c14:=hcell 14 _ rfl
 simp only[<- Nat.add_assoc,Nat.add_zero] at c0 c1 c2 c3 c4 c5 c6 c7 c8 c9 c10 c11 c12 c13 c14
 have HW:=zh hW
 have HNX:=zh @hNx
 have HE:=zh hE
 have hsz:=hW.kept.2.2.2.1
 clear hcell hNx hW hE
 conv=>arg 2;whnf
 have hst:zBv tb text (pl.map zAH) x=(pl.map zAH++[.val (findN tb.ents x.row x.col)],[akCell x.row x.col]):=by unfold zBv;rw[if_neg (by omega),if_pos k2]
 have HST:=zh hst
 clear hst
 have hn1:(x.kind==1)=false:=by simp[k2]
 have kk2:(x.kind==2)=true:=by simp[k2]
 have HV:=zh hv
 clear k2 hv
 go_wp2_with(first|(go_at_call 365;refine(table_CellG x.row x.col _ B tb asked na L (HW.out.src.below bel) (by omega) (by omega)).mono ?_;rintro e w2 ⟨rfl,ask2,hs2,hk2,hw2⟩;have HW2:=zh (WX.turn HW.out hB1 bel hs2 hk2 hw2 (WX.lfOne HW.out _));have hsw2:=HW2.out.kept.2.2.2.1;clear hs2 hk2 hw2)|(at_builtin;refine wpList_append_lies _ rfl _ _ 84 rfl w1.heap.size 91 i0 _ 11 112 Tryz.underlying84 hi hz0 hz1 hz2 (by rfl) (by decide) _ _ _ (by rfl) (zA7 HW2.out.own bel) _ 1 1 ((vArg (findN tb.ents x.row x.col)).cells) (by rfl) (by rfl) (by exact fun i u hu=>zAJ (by simp) i u hu) (Arg.cells_one _) (by decide) (by simp only[maxLen];omega) (by omega) (by simp;omega) _ rfl ?_;intro g cap w3 hown hgrow hat hlt3;have HR3:=zh (WX.pushV HW2.out hB1 bel hgrow hown hat HV.out);clear hown hgrow hat))
 exact HNX.out (pl++[(vArg (findN tb.ents x.row x.col),[])]) ask2 (na+1) (L++(akCell x.row x.col).cells) _ (by rw[HST.out,zBY];rfl) (by rw[HST.out];first|rfl|simp[zBi]) (by omega) HR3.out
end
theorem tell_take (l:List Td) (n:Int) (j:Nat) (e:Td) (he:l[j]? =some e) (hn:(l.take j).find? (fun e=>e.n==n)=none) (hf:(e.n==n)=true):tellN l n=e.v:=by
 unfold tellN
 rw[find_hit _ l j e he hn hf]
theorem tell_none (l:List Td) (n:Int) (hn:l.find? (fun e=>e.n==n)=none):tellN l n=⟨1,n,⟨#[]⟩,false,0⟩:=by
 unfold tellN
 rw[hn]
theorem host_Ask (hn:Bool) (ta:Option Addr) (tc:Nat) (told:List Td) (n:Int) (B pt:Nat) (w:World) (hr:ReadsN w B pt 6 ta told.length (zBi Td.cells told)) (hm:told.length<=1000000000) :
  Rt 363 #[.agg #[.bool hn,.slice ta told.length tc],.int .i64 n] w (vG (tellN told n)):=by
 have HR:=zh hr
 clear hr
 go_enter Tryz.func363,Tryz.ntmps363
 go_wp2
 go_loopw [5] (fun t5 wr=>∃ j:Nat,j<=told.length/\t5=.int .i64 j/\Below ((w.alloc (.cells #[.bool hn,.slice ta told.length tc] 28)).alloc zObj).heap.size ((w.alloc (.cells #[.bool hn,.slice ta told.length tc] 28)).alloc zObj) wr/\(told.take j).find? (fun e=>e.n==n)=none) (fun t _=>told.length-(intOf t).toNat)
 case atStart=>exact⟨0,Nat.zero_le _,rfl,Below.refl _ _,by simp⟩
 case round =>
  obtain⟨j,hj,rfl,hB,hno⟩:=hrel
  have hA:AtB ((w.alloc (.cells #[.bool hn,.slice ta told.length tc] 28)).alloc zObj) w.heap.size [.bool hn,.slice ta told.length tc]:=AtB.zAv (AtB.new rfl) _
  have hV:AtB ((w.alloc (.cells #[.bool hn,.slice ta told.length tc] 28)).alloc zObj) (w.heap.size+1) [.int .i64 0,.int .i64 0,.string ⟨#[]⟩,.bool false,.int .i64 0]:=AtB.new (alz _ _).symm
  have a0:=hA.below hB 0 _ rfl
  have a1:=hA.below hB 1 _ rfl
  have v0:=hV.below hB 0 _ rfl
  have v1:=hV.below hB 1 _ rfl
  have v2:=hV.below hB 2 _ rfl
  have v3:=hV.below hB 3 _ rfl
  have v4:=hV.below hB 4 _ rfl
  have hblk:wr.heap[w.heap.size+1]? =some (.cells #[.int .i64 0,.int .i64 0,.string ⟨#[]⟩,.bool false,.int .i64 0] 44 (0,0)):=(hB.block _ (by simp)).trans (by have h:=heap_alloc_new (w.alloc (.cells #[.bool hn,.slice ta told.length tc] 28)) zObj;simpa using h)
  have f0:=frozen_of_row wr (w.heap.size+1) 0 _ _ hblk
  have f1:=frozen_of_row wr (w.heap.size+1) 1 _ _ hblk
  have f2:=frozen_of_row wr (w.heap.size+1) 2 _ _ hblk
  have f3:=frozen_of_row wr (w.heap.size+1) 3 _ _ hblk
  have f4:=frozen_of_row wr (w.heap.size+1) 4 _ _ hblk
  have hB2:Below w.heap.size w wr:=Below.trans (show Below w.heap.size w ((w.alloc _).alloc _) from bel) (hB.mono (by simp;omega))
  have HB:=zh hB
  have HB2:=zh hB2
  have HNO:=zh hno
  have hsz:=hB2.size
  have hsz2:w.heap.size+1+1<=wr.heap.size:=by have:=hB.size;simpa using this
  have la:=zA2 a0
  have lv:=zA2 v0
  clear hA hV hB hblk hno
  by_cases hlt:j<told.length
  ·obtain⟨x,hx⟩:∃ x,told[j]? =some x:=⟨_,List.getElem?_eq_getElem hlt⟩
   obtain⟨pc,off,rfl,hpc1,hpc2,hpc3⟩:=HR.out.2 (show 0<told.length by omega)
   have hc:∀ i u,x.cells[i]? =some u->wr.cell? ⟨pc,off+(j*6+i),none⟩=some u:=fun i u hu=>cell_below (hpc3 _ u (zA9 Td.cells 6 Td.cells_length told j x hx i u hu)) hB2
   have e0:=hc 0 _ rfl
   have e1:=hc 1 _ rfl
   have e2:=hc 2 _ rfl
   have e3:=hc 3 _ rfl
   have e4:=hc 4 _ rfl
   have e5:=hc 5 _ rfl
   simp only[<- Nat.add_assoc,Nat.add_zero] at e0 e1 e2 e3 e4 e5
   have le0:=zA2 e0
   have HX:=zh hx
   have i1:(0:Int)<=(j:Int):=by omega
   have i2:(j:Int)<(told.length:Int):=by omega
   clear hc hx hpc1 hpc2 hpc3 hB2
   cases hq:(x.n==n)
   ·have HQ:=zh hq
    go_wp2
    go_roundw
    case rel=>exact⟨j+1,by omega,by go_num,HB.out,find_take _ told j x HX.out HNO.out HQ.out⟩
    case measure=>simp[intOf];omega
   ·have HT:=zh (tell_take told n j x HX.out HNO.out hq)
    go_wp2
    have hB2:=HB2.out
    exact bodyPost_ret (by simp[results,Tryz.results363,go_sem,zAa,v0,v1,v2,v3,v4];try rfl) rfl ⟨by rw[HT.out],bel⟩
  ·obtain rfl:j=told.length:=by omega
   have HT:=zh (tell_none told n (by have h:=HNO.out;rw[List.take_of_length_le (Nat.le_refl _)] at h;exact h))
   clear hB2
   go_wp2
   have hB2:=HB2.out
   exact bodyPost_ret (by simp[results,Tryz.results363,go_sem,zAa,v0,v1,v2,v3,v4];try rfl) rfl ⟨by rw[HT.out],bel⟩
theorem table_AskG (n:Int) (w:World) (B:Nat) (tb:Tb) (asked:Value) (na:Nat) (L:List Value) (hs:SrcG w B tb asked na L) (hn:tb.told.length<=1000000000) (ha:na<=1000000) :
  Calls Tryz.prog 364 #[.pointer (some ⟨tb.pt,0,none⟩),.int .i64 n] w fun e w'=>e=.returned (vG (tellN tb.told n))/\∃ asked',SrcG w' B tb asked' (na+1) (L++(akHost n).cells)/\zBu tb.pt asked.ownBlock w w'/\(asked'.ownBlock=asked.ownBlock∨∀ k,asked'.ownBlock=some k->w.heap.size<=k):=by
 obtain⟨pt,A,cc,ents,hn9,ta,tc,told,ftb,hb9⟩:=tb
 dsimp only[vG] at hs hn ⊢
 have HS:=zh hs
 have hlt0:pt<B:=hs.lt
 have p0:w.cell? ⟨pt,0,none⟩=some (.slice A ents.length cc):=hs.at0 0 _ rfl
 have p1:w.cell? ⟨pt,1,none⟩=some asked:=hs.at0 1 _ rfl
 have pf:w.frozen? ⟨pt,1,none⟩=false:=hs.fr
 have lp:=zA2 p0
 obtain⟨i0,hi,hz0,hz1,hz2⟩:=info_parts info_K
 have HNE:=zh (show some pt≠asked.ownBlock from fun e=>by have:=(hs.own.lt pt e.symm).1;omega)
 have HNE2:=zh (show some w.heap.size≠asked.ownBlock from fun e=>by have:=(hs.own.lt _ e.symm).2;omega)
 have lp1:pt<w.heap.size+1:=by omega
 have lp2:pt<w.heap.size+1+1:=by omega
 clear hs
 go_enter Tryz.func364,Tryz.ntmps364
 go_upto_region 1 with fail
 go_cut [15] (fun aA wx=>∃ asked',SrcG wx B ⟨pt,A,cc,ents,hn9,ta,tc,told,ftb,hb9⟩ asked' (na+1) (L++(akHost n).cells)/\zBu pt asked.ownBlock w wx/\(asked'.ownBlock=asked.ownBlock∨∀ k,asked'.ownBlock=some k->w.heap.size<=k)/\(∀ k,asked'.ownBlock=some k->k≠w.heap.size)/\wx.heap[w.heap.size]? =some (.cells #[.int .i64 0,.int .i64 0,.string ⟨#[]⟩,.bool false,.int .i64 0] 44 (0,0)))
 case first =>
  go_wp2_with(at_builtin;refine wpList_append_lies _ rfl _ _ 50 rfl B 113 i0 _ 8 64 Tryz.underlying50 hi hz0 hz1 hz2 (by rfl) (by decide) asked na L (by rfl) (zA7 HS.out.own bel) _ 1 1 ((akHost n).cells) (by rfl) (by rfl) (by exact fun i u hu=>zAJ (by simp) i u hu) (Ak.cells_one _) (by decide) (by simp only[maxLen];omega) (by omega) (by have:=HS.out.le;simp;omega) _ rfl ?_;intro g cap w1 hown1 hgrow hat hlt;have q1:w1.cell? ⟨pt,1,none⟩=some asked:=(hgrow.cell_far _ (by go_size) HNE.out).trans (by (repeat(first|with_reducible assumption|with_reducible refine zAT ?_|with_reducible refine zAB ?_ _|with_reducible refine zBg ?_|with_reducible refine zBX ?_ (by go_size) _)));have qf:w1.frozen? ⟨pt,1,none⟩=false:=(hgrow.frozen_far _ (by go_size) HNE.out).trans (by (repeat(first|with_reducible assumption|with_reducible refine zAT ?_|with_reducible refine zAB ?_ _|with_reducible refine zBg ?_|with_reducible refine zBX ?_ (by go_size) _)));have HN:=zh (SrcG.noted HS.out (by repeat(first|with_reducible exact Below.refl _ _|with_reducible assumption|with_reducible refine zBx ?_ _ (by go_size)|with_reducible refine Below.drew ?_)) hgrow hown1 hat);have HAT:=zh hat;clear hgrow hown1 hat)
  all_goals
   go_meet
   obtain⟨n1,n2,n3,n4⟩:=HN.out
   exact⟨_,n1,n2,n3,(fun k hk=>by
     have hg:k=g:=by simpa [Value.ownBlock] using hk.symm
     subst hg
     rcases HAT.out with h|h
     ·have:=(HS.out.own.lt _ h).2;omega
     ·simp at h;omega),
    (n4 _ (by (repeat(first|rw[alz]|rw[drz]));omega) (Nat.le_refl _) (fun e=>HNE2.out e.symm)).trans ((heap_alloc_old _ _ (by (repeat(first|rw[alz]|rw[drz]));omega)).trans (heap_alloc_new w _))⟩
 case rest =>
  obtain⟨asked',hs',hk,hw',hno,hbv⟩:=hcut
  have bv:∀ i u,(#[.int .i64 0,.int .i64 0,.string ⟨#[]⟩,.bool false,.int .i64 0]:Array Value)[i]? =some u->wc.cell? ⟨w.heap.size,i,none⟩=some u:=fun i u hu=>(cell_of_row wc w.heap.size i _ _ (0,0) hbv).trans hu
  have v0:=bv 0 _ rfl
  have v1:=bv 1 _ rfl
  have v2:=bv 2 _ rfl
  have v3:=bv 3 _ rfl
  have v4:=bv 4 _ rfl
  have f0:=frozen_of_row wc w.heap.size 0 _ _ hbv
  have f1:=frozen_of_row wc w.heap.size 1 _ _ hbv
  have f2:=frozen_of_row wc w.heap.size 2 _ _ hbv
  have f3:=frozen_of_row wc w.heap.size 3 _ _ hbv
  have f4:=frozen_of_row wc w.heap.size 4 _ _ hbv
  have r2:wc.cell? ⟨pt,2,none⟩=some (.bool hb9):=hs'.at0 2 _ rfl
  have r3:wc.cell? ⟨pt,3,none⟩=some (.slice ta told.length tc):=hs'.at0 3 _ rfl
  have lr:=zA2 r2
  have lv:=zA2 v0
  have KS:=zh hs'
  have KK:=zh hk
  have KW:=zh hw'
  have KN:=zh hno
  have hBS:=zh HS.out.le
  clear hs' hk hw' hno hbv bv p0 p1 pf
  go_wp2_with(go_at_call 363;refine mB (host_Ask hb9 ta tc told n B pt _ KS.out.tl hn) ?_;intro l m)
  have ha1:B<=w.heap.size:=hBS.out
  have ha3:asked'.ownBlock≠some w.heap.size:=fun e=>KN.out _ e rfl
  have ha4:w.heap.size<=w.heap.size:=Nat.le_refl _
  exact bodyPost_ret (by simp[results,Tryz.results364,go_sem,zAa,v0,v1,v2,v3,v4,lv];try rfl) rfl ⟨rfl,asked',(((((KS.out.set ha1 ha3).set ha1 ha3).set ha1 ha3).set ha1 ha3).set ha1 ha3).below bel,(((((KK.out.set ha4).set ha4).set ha4).set ha4).set ha4).below bel,KW.out⟩
def HostOf (tb:Tb) (h:Value):Prop:=(tb.hn=true/\h=.nilIface)∨(tb.hn=false/\h=.iface 31 (.pointer (some ⟨tb.pt,0,none⟩)))
def AskPost (w w':World) (B:Nat) (tb:Tb) (asked:Value) (na:Nat) (L:List Value) (ak:List Ak):Prop:=∃ asked' na',SrcG w' B tb asked' na' (L++zBi Ak.cells ak)/\na'<=na+1/\(na'=0->asked'=asked/\na=0)/\zBu tb.pt asked.ownBlock w w'/\(asked'.ownBlock=asked.ownBlock∨∀ k,asked'.ownBlock=some k->w.heap.size<=k)
theorem AskPost.of_below {w w':World} {B:Nat} {tb:Tb} {asked:Value} {na:Nat} {L:List Value} (hs:SrcG w B tb asked na L) (hb:Below w.heap.size w w'):AskPost w w' B tb asked na L [] :=
 ⟨asked,na,by simpa [zBi] using hs.below hb,by omega,fun h=>⟨rfl,h⟩,zBu.of_below hb,.inl rfl⟩
theorem ask_many (pe:Nat) (A:Option Addr) (n c:Nat) (hn:n≠1) (hm:n<=1000000) (w:World) (h:Value):Rt 25 #[.pointer (some ⟨pe,0,none⟩),.slice A n c] w (vG (errG 8)):=by
 have k1:((n:Int) != 1)=true:=by simp;omega
 clear hn
 go_enter Tryz.func25,Tryz.ntmps25
 go_wp2_with(go_at_call 21;refine mB (zA3 8 _) ?_;intro l m)
 go_returns
 exact⟨rfl,bel⟩
theorem ask_rect (pe g off c:Nat) (p:Arg) (hp:p.many=true) (w:World) (hr:∀ i u,p.cells[i]? =some u->w.cell? ⟨g,off+i,none⟩=some u):Rt 25 #[.pointer (some ⟨pe,0,none⟩),.slice (some ⟨g,off,none⟩) 1 c] w (vG (errG 8)):=by
 have a0:=hr 0 _ rfl
 rw[hp,Nat.add_zero] at a0
 have lg:=zA2 a0
 clear hr hp
 go_enter Tryz.func25,Tryz.ntmps25
 go_wp2_with(go_at_call 21;refine mB (zA3 8 _) ?_;intro l m)
 go_returns
 exact⟨rfl,bel⟩
theorem ask_code (pe g off c:Nat) (v:V) (hc:(zA5 v).2≠0) (w:World) (hr:∀ i u,(vArg v).cells[i]? =some u->w.cell? ⟨g,off+i,none⟩=some u):Rt 25 #[.pointer (some ⟨pe,0,none⟩),.slice (some ⟨g,off,none⟩) 1 c] w (vG (errG (zA5 v).2)):=by
 have a0:=hr 0 _ rfl
 have a1:=hr 1 _ rfl
 have a2:=hr 2 _ rfl
 have a3:=hr 3 _ rfl
 have a4:=hr 4 _ rfl
 have a5:=hr 5 _ rfl
 simp only[Nat.add_zero,vArg] at a0 a1 a2 a3 a4 a5
 have lg:=zA2 a0
 obtain⟨x,k,hx⟩:∃ x k,zA5 v=(x,k):=⟨_,_,rfl⟩
 rw[hx] at hc ⊢
 have k1:(k != 0)=true:=by simpa using hc
 have HX:=zh hx
 clear hr hc hx
 go_enter Tryz.func25,Tryz.ntmps25
 go_wp2_with(first
  | (go_at_call 35;refine(zAG v _).mono ?_;rw[HX.out];rintro e w1 ⟨rfl,hb⟩;obtain⟨l,m,rfl⟩:=zA0 hb;clear hb)
  | (go_at_call 21;refine mB (zA3 k _) ?_;intro l m))
 go_returns
 exact⟨rfl,bel⟩
theorem ask_none (pe g off c:Nat) (tp:Addr) (text:Int) (v:V) (hc:(zA5 v).2=0) (w:World) (hE:AtB w pe (zAc tp text .nilIface)) (hr:∀ i u,(vArg v).cells[i]? =some u->w.cell? ⟨g,off+i,none⟩=some u):Rt 25 #[.pointer (some ⟨pe,0,none⟩),.slice (some ⟨g,off,none⟩) 1 c] w (vG (errG 6)):=by
 have a0:=hr 0 _ rfl
 have a1:=hr 1 _ rfl
 have a2:=hr 2 _ rfl
 have a3:=hr 3 _ rfl
 have a4:=hr 4 _ rfl
 have a5:=hr 5 _ rfl
 simp only[Nat.add_zero,vArg] at a0 a1 a2 a3 a4 a5
 have lg:=zA2 a0
 have e2:w.cell? ⟨pe,2,none⟩=some .nilIface:=hE 2 _ rfl
 have le:=zA2 e2
 obtain⟨x,k,hx⟩:∃ x k,zA5 v=(x,k):=⟨_,_,rfl⟩
 rw[hx] at hc
 have hk:k=0:=hc
 subst hk
 have HX:=zh hx
 clear hr hc hx hE
 go_enter Tryz.func25,Tryz.ntmps25
 go_wp2_with(first
  | (go_at_call 35;refine(zAG v _).mono ?_;rw[HX.out];rintro e w1 ⟨rfl,hb⟩;obtain⟨l,m,rfl⟩:=zA0 hb;clear hb)
  | (go_at_call 21;refine mB (zA3 6 _) ?_;intro l m))
 go_returns
 exact⟨rfl,bel⟩
theorem flat1 (a:Ak):zBi Ak.cells [a]=a.cells:=by simp[zBi]
def hostV (text:Int) (t:V):V:=if mayG t=false∨t.code=1 then errG 8 else shortG text t
theorem ask_host (pe g off c:Nat) (tp:Addr) (text:Int) (v:V) (hc:(zA5 v).2=0) (w:World) (B:Nat) (tb:Tb) (asked:Value) (na:Nat) (L:List Value) (hs:SrcG w B tb asked na L) (ha:na<=100000) (ht:tb.told.length<=1048576) (hpe:pe≠tb.pt) (hpe2:asked.ownBlock≠some pe)
  (hE:AtB w pe (zAc tp text (.iface 31 (.pointer (some ⟨tb.pt,0,none⟩))))) (hr:∀ i u,(vArg v).cells[i]? =some u->w.cell? ⟨g,off+i,none⟩=some u) :
  Calls Tryz.prog 25 #[.pointer (some ⟨pe,0,none⟩),.slice (some ⟨g,off,none⟩) 1 c] w fun e w'=>e=.returned (vG (hostV text (tellN tb.told (zA5 v).1)))/\AskPost w w' B tb asked na L [akHost (zA5 v).1]:=by
 have a0:=hr 0 _ rfl
 have a1:=hr 1 _ rfl
 have a2:=hr 2 _ rfl
 have a3:=hr 3 _ rfl
 have a4:=hr 4 _ rfl
 have a5:=hr 5 _ rfl
 simp only[Nat.add_zero,vArg] at a0 a1 a2 a3 a4 a5
 have lg:=zA2 a0
 have e2:w.cell? ⟨pe,2,none⟩=some (.iface 31 (.pointer (some ⟨tb.pt,0,none⟩))):=hE 2 _ rfl
 have le:=zA2 e2
 have HS:=zh hs
 have HE:=zh hE
 have HPT:=zh (show w.heap.size≠tb.pt from by have h1:=hs.lt;have h2:=hs.le;omega)
 have HAW:=zh (show asked.ownBlock≠some w.heap.size from fun e=>by have:=(hs.own.lt _ e).2;omega)
 obtain⟨x,k,hx⟩:∃ x k,zA5 v=(x,k):=⟨_,_,rfl⟩
 rw[hx] at hc ⊢
 have hk:k=0:=hc
 subst hk
 dsimp only[vG]
 obtain⟨T,hT⟩:∃ T,tellN tb.told x=T:=⟨_,rfl⟩
 rw[hT]
 have HT:=zh hT
 have HX:=zh hx
 unfold hostV
 clear hr hc hx hE hs hT
 by_cases hm:mayG T=true
 ·have HM:=zh hm
  by_cases h1:T.code=1
  ·rw[if_pos (.inr h1)]
   have k1:(T.code==1)=true:=by simp[h1]
   clear h1 hm
   go_enter Tryz.func25,Tryz.ntmps25
   go_wp2_with(first
    | (go_at_call 35;refine(zAG v _).mono ?_;rw[HX.out];rintro e w1 ⟨rfl,hb⟩;obtain⟨l,m,rfl⟩:=zA0 hb;clear hb)
    | (go_at_call 364;refine(table_AskG x _ B tb asked na L (HS.out.below bel) (by omega) (by omega)).mono ?_;rw[HT.out];rintro e w2 ⟨rfl,ask2,hs2,hk2,hw2⟩;have KK:=zh ((zBu.of_below (pt:=tb.pt) (row:=asked.ownBlock) (show Below w.heap.size w (more (w.alloc zObj) l m) from bel)).trans hk2 (.inl rfl));have hz:w2.heap[w.heap.size]? =some (.cells #[.int .i64 0,.int .i64 0,.string ⟨#[]⟩,.bool false,.int .i64 0] 44 (0,0)):=(hk2.2.2.2.2 _ (by simp;omega) HPT.out HAW.out).trans ((zBR (by simp)).trans (heap_alloc_new w _));have v0:w2.cell? ⟨w.heap.size,0,none⟩=some (.int .i64 0):=cell_of_row w2 _ 0 _ _ (0,0) hz;have v1:w2.cell? ⟨w.heap.size,1,none⟩=some (.int .i64 0):=cell_of_row w2 _ 1 _ _ (0,0) hz;have v2:w2.cell? ⟨w.heap.size,2,none⟩=some (.string ⟨#[]⟩):=cell_of_row w2 _ 2 _ _ (0,0) hz;have v3:w2.cell? ⟨w.heap.size,3,none⟩=some (.bool false):=cell_of_row w2 _ 3 _ _ (0,0) hz;have v4:w2.cell? ⟨w.heap.size,4,none⟩=some (.int .i64 0):=cell_of_row w2 _ 4 _ _ (0,0) hz;have f0:=frozen_of_row w2 w.heap.size 0 _ _ hz;have f1:=frozen_of_row w2 w.heap.size 1 _ _ hz;have f2:=frozen_of_row w2 w.heap.size 2 _ _ hz;have f3:=frozen_of_row w2 w.heap.size 3 _ _ hz;have f4:=frozen_of_row w2 w.heap.size 4 _ _ hz;have lv:=zA2 v0;have HE2:=zh (show AtB w2 pe (zAc tp text (.iface 31 (.pointer (some ⟨tb.pt,0,none⟩)))) from fun j u hu=>KK.out.cell hpe hpe2 (HE.out j u hu));have KS:=zh hs2;have KW:=zh (show ask2.ownBlock=asked.ownBlock∨∀ k,ask2.ownBlock=some k->w.heap.size+1<=k from hw2.imp id fun h k hk=>(by have:=h k hk;simp at this;omega));clear hs2 hk2 hw2 hz)
    | (go_at_call 43;refine(zA8 T _).mono ?_;rw[HM.out];rintro e w3 ⟨rfl,hb⟩;obtain⟨l3,m3,rfl⟩:=zA0 hb;clear hb)
    | (go_at_call 21;refine mB (zA3 8 _) ?_;intro l4 m4))
   have ha1:B<=w.heap.size:=HS.out.le
   have ha3:ask2.ownBlock≠some w.heap.size:=fun e=>by
    rcases KW.out with h|h
    ·exact HAW.out (h ▸ e)
    ·have:=h _ e;omega
   have ha4:w.heap.size<=w.heap.size:=Nat.le_refl _
   exact bodyPost_ret (by simp[results,Tryz.results25,go_sem,zAa,v0,v1,v2,v3,v4,lv];try rfl) rfl ⟨rfl,ask2,na+1,by rw[flat1];exact(((((KS.out.set ha1 ha3).set ha1 ha3).set ha1 ha3).set ha1 ha3).set ha1 ha3).below bel,Nat.le_refl _,fun h=>absurd h (Nat.succ_ne_zero _),(((((KK.out.set ha4).set ha4).set ha4).set ha4).set ha4).below bel,KW.out.imp id fun h k hk=>by have:=h k hk;omega⟩
  ·have hno: ¬ (mayG T=false∨T.code=1):=fun h=>h.elim (fun h=>by rw[hm] at h;cases h) h1
   rw[if_neg hno]
   clear hno
   have k1:(T.code==1)=false:=by simp[h1]
   clear h1 hm
   go_enter Tryz.func25,Tryz.ntmps25
   go_wp2_with(first
    | (go_at_call 35;refine(zAG v _).mono ?_;rw[HX.out];rintro e w1 ⟨rfl,hb⟩;obtain⟨l,m,rfl⟩:=zA0 hb;clear hb)
    | (go_at_call 364;refine(table_AskG x _ B tb asked na L (HS.out.below bel) (by omega) (by omega)).mono ?_;rw[HT.out];rintro e w2 ⟨rfl,ask2,hs2,hk2,hw2⟩;have KK:=zh ((zBu.of_below (pt:=tb.pt) (row:=asked.ownBlock) (show Below w.heap.size w (more (w.alloc zObj) l m) from bel)).trans hk2 (.inl rfl));have hz:w2.heap[w.heap.size]? =some (.cells #[.int .i64 0,.int .i64 0,.string ⟨#[]⟩,.bool false,.int .i64 0] 44 (0,0)):=(hk2.2.2.2.2 _ (by simp;omega) HPT.out HAW.out).trans ((zBR (by simp)).trans (heap_alloc_new w _));have v0:w2.cell? ⟨w.heap.size,0,none⟩=some (.int .i64 0):=cell_of_row w2 _ 0 _ _ (0,0) hz;have v1:w2.cell? ⟨w.heap.size,1,none⟩=some (.int .i64 0):=cell_of_row w2 _ 1 _ _ (0,0) hz;have v2:w2.cell? ⟨w.heap.size,2,none⟩=some (.string ⟨#[]⟩):=cell_of_row w2 _ 2 _ _ (0,0) hz;have v3:w2.cell? ⟨w.heap.size,3,none⟩=some (.bool false):=cell_of_row w2 _ 3 _ _ (0,0) hz;have v4:w2.cell? ⟨w.heap.size,4,none⟩=some (.int .i64 0):=cell_of_row w2 _ 4 _ _ (0,0) hz;have f0:=frozen_of_row w2 w.heap.size 0 _ _ hz;have f1:=frozen_of_row w2 w.heap.size 1 _ _ hz;have f2:=frozen_of_row w2 w.heap.size 2 _ _ hz;have f3:=frozen_of_row w2 w.heap.size 3 _ _ hz;have f4:=frozen_of_row w2 w.heap.size 4 _ _ hz;have lv:=zA2 v0;have HE2:=zh (show AtB w2 pe (zAc tp text (.iface 31 (.pointer (some ⟨tb.pt,0,none⟩)))) from fun j u hu=>KK.out.cell hpe hpe2 (HE.out j u hu));have KS:=zh hs2;have KW:=zh (show ask2.ownBlock=asked.ownBlock∨∀ k,ask2.ownBlock=some k->w.heap.size+1<=k from hw2.imp id fun h k hk=>(by have:=h k hk;simp at this;omega));clear hs2 hk2 hw2 hz)
    | (go_at_call 43;refine(zA8 T _).mono ?_;rw[HM.out];rintro e w3 ⟨rfl,hb⟩;obtain⟨l3,m3,rfl⟩:=zA0 hb;clear hb)
    | (go_at_call 22;refine mB (eval_shortX pe tp text _ T _ (HE2.out.below bel)) ?_;intro l4 m4))
   have ha1:B<=w.heap.size:=HS.out.le
   have ha3:ask2.ownBlock≠some w.heap.size:=fun e=>by
    rcases KW.out with h|h
    ·exact HAW.out (h ▸ e)
    ·have:=h _ e;omega
   have ha4:w.heap.size<=w.heap.size:=Nat.le_refl _
   exact bodyPost_ret (by simp[results,Tryz.results25,go_sem,zAa,v0,v1,v2,v3,v4,lv];try rfl) rfl ⟨rfl,ask2,na+1,by rw[flat1];exact(((((KS.out.set ha1 ha3).set ha1 ha3).set ha1 ha3).set ha1 ha3).set ha1 ha3).below bel,Nat.le_refl _,fun h=>absurd h (Nat.succ_ne_zero _),(((((KK.out.set ha4).set ha4).set ha4).set ha4).set ha4).below bel,KW.out.imp id fun h k hk=>by have:=h k hk;omega⟩
 ·have hm:mayG T=false:=by simpa using hm
  rw[if_pos (.inl hm)]
  have HM:=zh hm
  clear hm
  go_enter Tryz.func25,Tryz.ntmps25
  go_wp2_with(first
   | (go_at_call 35;refine(zAG v _).mono ?_;rw[HX.out];rintro e w1 ⟨rfl,hb⟩;obtain⟨l,m,rfl⟩:=zA0 hb;clear hb)
   | (go_at_call 364;refine(table_AskG x _ B tb asked na L (HS.out.below bel) (by omega) (by omega)).mono ?_;rw[HT.out];rintro e w2 ⟨rfl,ask2,hs2,hk2,hw2⟩;have KK:=zh ((zBu.of_below (pt:=tb.pt) (row:=asked.ownBlock) (show Below w.heap.size w (more (w.alloc zObj) l m) from bel)).trans hk2 (.inl rfl));have hz:w2.heap[w.heap.size]? =some (.cells #[.int .i64 0,.int .i64 0,.string ⟨#[]⟩,.bool false,.int .i64 0] 44 (0,0)):=(hk2.2.2.2.2 _ (by simp;omega) HPT.out HAW.out).trans ((zBR (by simp)).trans (heap_alloc_new w _));have v0:w2.cell? ⟨w.heap.size,0,none⟩=some (.int .i64 0):=cell_of_row w2 _ 0 _ _ (0,0) hz;have v1:w2.cell? ⟨w.heap.size,1,none⟩=some (.int .i64 0):=cell_of_row w2 _ 1 _ _ (0,0) hz;have v2:w2.cell? ⟨w.heap.size,2,none⟩=some (.string ⟨#[]⟩):=cell_of_row w2 _ 2 _ _ (0,0) hz;have v3:w2.cell? ⟨w.heap.size,3,none⟩=some (.bool false):=cell_of_row w2 _ 3 _ _ (0,0) hz;have v4:w2.cell? ⟨w.heap.size,4,none⟩=some (.int .i64 0):=cell_of_row w2 _ 4 _ _ (0,0) hz;have f0:=frozen_of_row w2 w.heap.size 0 _ _ hz;have f1:=frozen_of_row w2 w.heap.size 1 _ _ hz;have f2:=frozen_of_row w2 w.heap.size 2 _ _ hz;have f3:=frozen_of_row w2 w.heap.size 3 _ _ hz;have f4:=frozen_of_row w2 w.heap.size 4 _ _ hz;have lv:=zA2 v0;have HE2:=zh (show AtB w2 pe (zAc tp text (.iface 31 (.pointer (some ⟨tb.pt,0,none⟩)))) from fun j u hu=>KK.out.cell hpe hpe2 (HE.out j u hu));have KS:=zh hs2;have KW:=zh (show ask2.ownBlock=asked.ownBlock∨∀ k,ask2.ownBlock=some k->w.heap.size+1<=k from hw2.imp id fun h k hk=>(by have:=h k hk;simp at this;omega));clear hs2 hk2 hw2 hz)
   | (go_at_call 43;refine(zA8 T _).mono ?_;rw[HM.out];rintro e w3 ⟨rfl,hb⟩;obtain⟨l3,m3,rfl⟩:=zA0 hb;clear hb)
   | (go_at_call 21;refine mB (zA3 8 _) ?_;intro l4 m4))
  have ha1:B<=w.heap.size:=HS.out.le
  have ha3:ask2.ownBlock≠some w.heap.size:=fun e=>by
   rcases KW.out with h|h
   ·exact HAW.out (h ▸ e)
   ·have:=h _ e;omega
  have ha4:w.heap.size<=w.heap.size:=Nat.le_refl _
  exact bodyPost_ret (by simp[results,Tryz.results25,go_sem,zAa,v0,v1,v2,v3,v4,lv];try rfl) rfl ⟨rfl,ask2,na+1,by rw[flat1];exact(((((KS.out.set ha1 ha3).set ha1 ha3).set ha1 ha3).set ha1 ha3).set ha1 ha3).below bel,Nat.le_refl _,fun h=>absurd h (Nat.succ_ne_zero _),(((((KK.out.set ha4).set ha4).set ha4).set ha4).set ha4).below bel,KW.out.imp id fun h k hk=>by have:=h k hk;omega⟩
theorem askG_one (tb:Tb) (text:Int) (v:V):askG tb text [.val v]=if (zA5 v).2≠0 then (errG (zA5 v).2,[]) else if tb.hn then (errG 6,[]) else (hostV text (tellN tb.told (zA5 v).1),[akHost (zA5 v).1]):=rfl
theorem askG_two (tb:Tb) (text:Int) (a b:It) (l:List It):askG tb text (a::b::l)=(errG 8,[]):=by cases a<;>rfl
theorem eval_askG (pe:Nat) (tp:Addr) (text:Int) (h:Value) (args:List (Arg×List En)) (A:Option Addr) (c:Nat) (w:World) (B:Nat) (tb:Tb) (asked:Value) (na:Nat) (L:List Value) (hs:SrcG w B tb asked na L) (ha:na<=100000) (ht:tb.told.length<=1048576) (hpe:pe≠tb.pt) (hpe2:asked.ownBlock≠some pe)
  (hE:AtB w pe (zAc tp text h)) (hh:HostOf tb h) (hm:args.length<=1000000) (hwf:∀ p∈args,WfP p) (hr:∀ p,args=[p]->∃ g off,A=some ⟨g,off,none⟩/\∀ i u,p.1.cells[i]? =some u->w.cell? ⟨g,off+i,none⟩=some u) :
  Calls Tryz.prog 25 #[.pointer (some ⟨pe,0,none⟩),.slice A args.length c] w fun e w'=>e=.returned (vG ((askG tb text (args.map zAH)).1))/\AskPost w w' B tb asked na L (askG tb text (args.map zAH)).2:=by
 by_cases h1:args.length=1
 ·obtain⟨p,rfl⟩:=List.length_eq_one_iff.1 h1
  obtain⟨g,off,rfl,hc⟩:=hr p rfl
  have hw:=hwf p (by simp)
  cases hmn:p.1.many
  ·have hp:=hw.1 hmn
   generalize p.1.val=v at hp
   subst hp
   have e1:([(vArg v,([]:List En))]).map zAH=[.val v]:=rfl
   rw[e1]
   by_cases hcd:(zA5 v).2=0
   ·rcases hh with ⟨h2,rfl⟩|⟨h2,rfl⟩
    ·have e2:askG tb text [.val v]=(errG 6,[]):=by rw[askG_one,if_neg (by simp[hcd]),h2];rfl
     rw[e2]
     refine(ask_none pe g off c tp text v hcd w hE hc).mono ?_
     rintro e w' ⟨rfl,hb⟩
     exact⟨rfl,AskPost.of_below hs hb⟩
    ·have e2:askG tb text [.val v]=(hostV text (tellN tb.told (zA5 v).1),[akHost (zA5 v).1]):=by rw[askG_one,if_neg (by simp[hcd]),h2];rfl
     rw[e2]
     exact ask_host pe g off c tp text v hcd w B tb asked na L hs ha ht hpe hpe2 hE hc
   ·have e2:askG tb text [.val v]=(errG (zA5 v).2,[]):=by rw[askG_one,if_pos hcd]
    rw[e2]
    refine(ask_code pe g off c v hcd w hc).mono ?_
    rintro e w' ⟨rfl,hb⟩
    exact⟨rfl,AskPost.of_below hs hb⟩
  ·have e1:askG tb text ([p].map zAH)=(errG 8,[]):=by
    unfold askG zAH
    simp[hmn]
   rw[e1]
   refine(ask_rect pe g off c p.1 hmn w hc).mono ?_
   rintro e w' ⟨rfl,hb⟩
   exact⟨rfl,AskPost.of_below hs hb⟩
 ·have e1:askG tb text (args.map zAH)=(errG 8,[]):=by
   match args,h1 with
   | [],_=>rfl
   | [p],h=>exact absurd rfl h
   | p::q::l,_=>exact askG_two _ _ _ _ _
  rw[e1]
  refine(ask_many pe A args.length c h1 hm w h).mono ?_
  rintro e w' ⟨rfl,hb⟩
  exact⟨rfl,AskPost.of_below hs hb⟩
theorem good_among {C:Prop} {vs:List V} (h:∀ v∈vs,Good C v):Good C (zAA vs).2:=by
 unfold zAA
 split
 ·rename_i v hv
  exact h v (List.mem_of_find?_eq_some hv)
 ·exact good_zero C
theorem among_in {C:Prop} {vs:List V} (h:∀ v∈vs,Good C v):∀ x∈(zAA vs).1,In63 x:=by
 intro x hx
 unfold zAA at hx
 split at hx
 ·simp at hx
 ·simp only[numsOf,List.mem_map,List.mem_filter] at hx
  obtain⟨v,⟨hv,_⟩,rfl⟩:=hx
  exact(h v hv).2.2
theorem good_fit (C:Prop) (S:Int):Good C (fitG S):=by
 unfold fitG
 by_cases h:S< -9223372036854775808∨9223372036854775807<S
 ·rw[if_pos h];exact zAP C fun _=>by decide
 ·rw[if_neg h];exact zAw C (by unfold Is64;omega)
theorem good_prodGo (C:Prop):∀ (l:List Int) (p:Int),In63 p->Good C (prodGo p l)
 | [],p,hp=>zAw C hp.to64
 | x::l,p,hp=>by
   unfold prodGo
   have h:=mul_pb p x
   exact zA1 (zAP C fun _=>h.1) (good_prodGo C l _ h.2)
theorem fold_in (f:Int->Int->Int) (hf:∀ a b,f a b=a∨f a b=b):∀ (l:List Int) (a:Int),In63 a->(∀ x∈l,In63 x)->In63 (l.foldl f a)
 | [],_,ha,_=>ha
 | x::l,a,ha,h=>by
   refine fold_in f hf l _ ?_ fun y hy=>h y (List.mem_cons_of_mem _ hy)
   rcases hf a x with e|e<;>rw[e]
   ·exact ha
   ·exact h x (by simp)
theorem head_in {l:List Int} (h:∀ x∈l,In63 x):In63 (l.headD 0):=by
 cases l with
 | nil=>exact⟨by decide,by decide⟩
 | cons x l=>exact h x (by simp)
theorem min_in {l:List Int} (h:∀ x∈l,In63 x):In63 (Lib.minOf l):=fold_in min (fun a b=>by omega) l _ (head_in h) h
theorem max_in {l:List Int} (h:∀ x∈l,In63 x):In63 (Lib.maxOf l):=fold_in max (fun a b=>by omega) l _ (head_in h) h
theorem meanN_le {m n:Nat} (hn:0<n) (h:m<=n*9223372036854775807):meanN m n<=9223372036854775807:=by
 have h1:m / n<=9223372036854775807:=Nat.div_le_of_le_mul h
 unfold meanN
 split
 ·rename_i hr
  rcases Nat.lt_or_ge (m / n) 9223372036854775807 with h2|h2
  ·omega
  ·exfalso
   have h3:m / n=9223372036854775807:=by omega
   have h4:=Nat.div_add_mod m n
   rw[h3] at h4
   have h5:m % n=0:=by omega
   omega
 ·exact h1
theorem mean_in {l:List Int} (h:∀ x∈l,In63 x):In63 (meanG l):=by
 have h1:=sum_le l h
 rcases Nat.eq_zero_or_pos l.length with h0|h0
 ·have e:l=[]:=List.length_eq_zero_iff.1 h0
  subst e
  exact⟨by decide,by decide⟩
 ·have h2:=meanN_le h0 h1
  unfold meanG In63
  split<;>omega
theorem median_in {l:List Int} (h:∀ x∈l,In63 x):In63 (medianG l):=by
 have hs:∀ x∈sortG l,In63 x:=fun x hx=>h x ((sortG_mem l x).1 hx)
 unfold medianG
 split
 ·exact in_getD hs _
 ·exact mean_in fun x hx=>hs x (List.mem_of_mem_drop (List.mem_of_mem_take hx))
theorem good_look {C:Prop} (a:Arg) (p:Int×Int):∀ (es:List En) (v:V),(∀ e∈es,Good C e.v)->Good C v->Good C (es.foldl (fun o e=>if plE a e=p then e.v else o) v)
 | [],_,_,h0=>h0
 | e::es,v,h,h0=>good_look a p es _ (fun x hx=>h x (List.mem_cons_of_mem _ hx)) (zA1 (h e (by simp)) h0)
theorem good_lookG {C:Prop} {a:Arg} {es:List En} (h:∀ e∈es,Good C e.v) (p:Int×Int):Good C (lookG a es p):=good_look a p es zeroG h (good_zero C)
theorem int_ne {C:Prop} {v:V} (h:Good C v) (hC:C):(intG v).2≠1:=by
 unfold intG
 repeat' split
 ·exact zCJ h hC
 ·simp
 ·simp
theorem good_joinGo {C:Prop} (tx:Int) (b:ByteArray):∀ (vs:List V) (n:Int) (l:List ByteArray),Good C (joinGo tx b n vs l)
 | [],_,_=>good_txt C _
 | v::r,n,l=>by
   unfold joinGo
   exact zA1 (good_joinGo tx b r _ _) (zA1 (zAP C fun _=>by decide) (good_joinGo tx b r _ _))
def AllGood (C:Prop) (pl:List (Arg×List En)):Prop:=∀ p∈pl,Good C p.1.val/\∀ e∈p.2,Good C e.v
theorem AllGood.items {C:Prop} {pl:List (Arg×List En)} (h:AllGood C pl):∀ v∈zA4 pl,Good C v:=by
 intro v hv
 obtain⟨p,hp,hv⟩:=List.mem_flatMap.1 hv
 unfold zC3 at hv
 rcases List.mem_append.1 hv with hv|hv
 ·split at hv
  ·simp at hv
  ·simp only[List.mem_cons,List.not_mem_nil,or_false] at hv
   subst hv
   exact(h p hp).1
 ·obtain⟨e,he,rfl⟩:=List.mem_map.1 hv
  exact(h p hp).2 e he
theorem AllGood.at {C:Prop} {pl:List (Arg×List En)} (h:AllGood C pl) (i:Nat):Good C (pl.getD i p0A).1.val/\∀ e∈(pl.getD i p0A).2,Good C e.v:=by
 rw[List.getD_eq_getElem?_getD]
 cases e:pl[i]? with
 | none=>exact⟨good_zero C,fun e he=>by simp[p0A] at he⟩
 | some p=>exact h p (List.mem_of_getElem? e)
theorem small_area {a:Arg} (h:zAQ a): -50000000000<=zBm a*zBl a/\zBm a*zBl a<=50000000000:=by
 have h1: -200001<=zBm a/\zBm a<=200001:=by unfold zBm;unfold zAQ at h;omega
 have h2: -200001<=zBl a/\zBl a<=200001:=by unfold zBl;unfold zAQ at h;omega
 have h3:(zBm a*zBl a).natAbs<=200001*200001:=by rw[Int.natAbs_mul];exact Nat.mul_le_mul (by omega) (by omega)
 omega
theorem good_countif (C:Prop) {a:Arg} {es:List En} {v:V} (h:zAQ a) (hn:a.n<=1000000000) (hl:es.length<=1000000000):Good C (countifG a es v):=by
 have h1:=small_area h
 have h2:(es.countP fun e=>eqB e.v v)<=es.length:=List.countP_le_length
 unfold countifG
 refine zAw C ?_
 obtain⟨z,hz⟩:∃ z,zBm a*zBl a=z:=⟨_,rfl⟩
 rw[hz] at h1 ⊢
 unfold Is64
 split<;>omega
theorem scan_lt {a:Arg} {es:List En} {v:V} {i:Nat} (h:scanG a es v=some i):i<(zBm a*zBl a).toNat:=by
 unfold scanG at h
 exact List.mem_range.1 (List.mem_of_find?_eq_some h)
theorem argOk_small {a:Arg} {es:List En} (h:zBo a es=true):zAQ a:=by
 by_cases hm:a.many=true
 ·exact(zB9 h hm).1
 ·unfold zBo at h
  rw[if_neg hm] at h
  simp only[Bool.and_eq_true,decide_eq_true_eq] at h
  unfold zAQ
  omega
theorem small_p0:zAQ p0A.1:=by unfold zAQ p0A;simp
theorem may_in {v:V} (h:mayG v=true) (h64:Is64 v.num):In63 v.num:=by
 by_cases h1:v.tag=1
 ·exact num_63 h h64 h1
 ·unfold mayG at h
  simp only[Bool.and_eq_true] at h
  have h2:=h.1.2
  unfold eqB at h2
  have h3:=congrArg V.num (of_decide_eq_true h2)
  unfold bareG at h3
  simp only[if_neg h1] at h3
  rw[h3]
  exact⟨by decide,by decide⟩
structure GoodIn (C:Prop) (pl:List (Arg×List En)):Prop where
 g:AllGood C pl
 s:∀ p∈pl,zAQ p.1/\p.1.n<=1000000000/\p.2.length<=1000000000
theorem GoodIn.at {C:Prop} {pl:List (Arg×List En)} (h:GoodIn C pl) (i:Nat):zAQ (pl.getD i p0A).1/\(pl.getD i p0A).1.n<=1000000000/\(pl.getD i p0A).2.length<=1000000000:=by
 rw[List.getD_eq_getElem?_getD]
 cases e:pl[i]? with
 | none=>exact⟨small_p0,by simp[p0A],by simp[p0A]⟩
 | some p=>exact h.s p (List.mem_of_getElem? e)
theorem side64 {x:Int} (h0: -200001<=x) (h1:x<=200001):Is64 (x*10000):=by unfold Is64;omega
theorem good_some {C:Prop} {vs:List V} {r:Int} (h:∀ v∈vs,Good C v) (hr:In63 r):Good C (if (zAA vs).2.tag=4 then (zAA vs).2 else if (zAA vs).1.length=0 then errG 6 else numG r) :=
 zA1 (good_among h) (zA1 (zAP C fun _=>by decide) (zAw C hr.to64))
theorem good_aggDo {C:Prop} (s:ByteArray) (tx:Int) {pl:List (Arg×List En)} (h:GoodIn C pl) (hT:(zA4 pl).length<=20000000):Good C (aggDo s tx pl):=by
 have h8:Good C (errG 8):=zAP C fun _=>by decide
 have h5:Good C (errG 5):=zAP C fun _=>by decide
 have h6:Good C (errG 6):=zAP C fun _=>by decide
 have hi:=h.g.items
 have g0:=h.g.at 0
 have g1:=h.g.at 1
 have g2:=h.g.at 2
 have s0:=h.at 0
 have s1:=h.at 1
 have s2:=h.at 2
 have hs:=among_in hi
 have hr0: -200001<=zBm (pl.getD 0 p0A).1/\zBm (pl.getD 0 p0A).1<=200001:=by have:=s0.1;unfold zBm;unfold zAQ at this;omega
 have hc0: -200001<=zBl (pl.getD 0 p0A).1/\zBl (pl.getD 0 p0A).1<=200001:=by have:=s0.1;unfold zBl;unfold zAQ at this;omega
 have hcnt:∀ f:V->Bool,Good C (numG (((zA4 pl).countP f:Nat)*10000)):=fun f=>by
  have h1:(zA4 pl).countP f<=(zA4 pl).length:=List.countP_le_length
  exact zAw C (by unfold Is64;omega)
 unfold aggDo
 refine zA1 (zAw C (side64 hc0.1 hc0.2)) ?_
 refine zA1 (zAw C (side64 hr0.1 hr0.2)) ?_
 refine zA1 ?_ ?_
 ·unfold joinG
  refine zA1 (good_among ?_) (good_joinGo _ _ _ _ _)
  exact(show AllGood C (pl.drop 1) from fun p hp=>h.g p (List.mem_of_mem_drop hp)).items
 refine zA1 ?_ ?_
 ·have hp:∀ v∈zA4 [pl.getD 0 p0A],Good C v:=(show AllGood C [pl.getD 0 p0A] from fun p hp=>by
   simp only[List.mem_cons,List.not_mem_nil,or_false] at hp
   subst hp
   exact g0).items
  unfold largeG
  exact zA1 (zAP C fun hC=>int_ne g1.1 hC) (zA1 (good_among hp) (zA1 h5 (zA1 h5 (zAw C (in_getD (fun x hx=>among_in hp x ((sortG_mem _ x).1 hx)) _).to64))))
 refine zA1 ?_ ?_
 ·unfold indexG
  exact zA1 (zAP C fun hC=>int_ne g1.1 hC) (zA1 (zAP C fun hC=>int_ne g2.1 hC) (zA1 h5 (zA1 h5 (zA1 h5 (zA1 h5 (good_lookG g0.2 _))))))
 refine zA1 ?_ ?_
 ·unfold lookupG
  refine zA1 h8 (zA1 h8 ?_)
  split
  ·exact good_lookG g2.2 _
  ·exact h6
 refine zA1 ?_ ?_
 ·unfold matchG
  refine zA1 h8 ?_
  split
  ·rename_i i hsc
   have h1:=scan_lt hsc
   have h2:=small_area s1.1
   exact zAw C (by unfold Is64;omega)
  ·exact h6
 refine zA1 ?_ ?_
 ·unfold sumifG
  have hp:∀ v∈sumifL (pl.getD 0 p0A).1 (pl.getD 0 p0A).2 (pl.getD 1 p0A).1.val (pl.getD 2 p0A).1 (pl.getD 2 p0A).2,Good C v:=fun v hv=>by
   unfold sumifL at hv
   obtain⟨e,he,rfl⟩:=List.mem_map.1 hv
   exact g2.2 e (List.mem_filter.1 he).1
  exact zA1 h8 (zA1 (good_among hp) (good_fit C _))
 refine zA1 (good_countif C s0.1 s0.2.1 s0.2.2) ?_
 refine zA1 (good_countif C s0.1 s0.2.1 s0.2.2) ?_
 refine zA1 (hcnt _) ?_
 refine zA1 (hcnt _) ?_
 refine zA1 (good_some hi (median_in hs)) ?_
 refine zA1 (good_some hi (mean_in hs)) ?_
 refine zA1 (good_some hi (max_in hs)) ?_
 refine zA1 (good_some hi (min_in hs)) ?_
 refine zA1 (zA1 (good_among hi) (good_prodGo C _ _ ⟨by decide,by decide⟩)) ?_
 exact zA1 (zA1 (good_among hi) (good_fit C _)) h8
def NoCycle (pl:List (Arg×List En)):Prop:=∀ p∈pl,p.1.val.code≠1/\∀ e∈p.2,e.v.code≠1
theorem goodIn_of {C:Prop} {pl:List (Arg×List En)} (hC:C->NoCycle pl) (h64:∀ p∈pl,Is64 p.1.val.num/\∀ e∈p.2,Is64 e.v.num) (hn9:∀ p∈pl,p.1.n<=1048576) (hlen:∀ p∈pl,p.2.length=p.1.n) (hok:(List.range (pl.map Prod.fst).length).all (okJ pl)=true):GoodIn C pl:=by
 have hk:∀ p∈pl,zBo p.1 p.2=true:=fun p hp=>by
  obtain⟨j,hj⟩:=List.getElem?_of_mem hp
  have h1:=List.all_eq_true.1 hok j (List.mem_range.2 (by rw[List.length_map];exact(List.getElem?_eq_some_iff.1 hj).1))
  rw[okJ_at hj] at h1
  exact h1
 refine⟨fun p hp=>⟨⟨argOk_may (hk p hp),fun c=>(hC c p hp).1,may_in (argOk_may (hk p hp)) (h64 p hp).1⟩,fun e he=> ?_⟩,fun p hp=>⟨argOk_small (hk p hp),by have:=hn9 p hp;omega,by have:=hlen p hp;have:=hn9 p hp;omega⟩⟩
 have hm:mayG e.v=true:=by
  have h1:=hk p hp
  unfold zBo at h1
  by_cases hm:p.1.many=true
  ·rw[if_pos hm] at h1
   simp only[Bool.and_eq_true] at h1
   exact(entsGo_may h1.2 e he).1
  ·rw[if_neg hm] at h1
   simp only[Bool.and_eq_true,decide_eq_true_eq] at h1
   have h2:=hlen p hp
   have h3:p.2=[]:=List.length_eq_zero_iff.1 (by rw[h2];exact h1.1.2)
   rw[h3] at he
   simp at he
 exact⟨hm,fun c=>(hC c p hp).2 e he,may_in hm ((h64 p hp).2 e he)⟩
theorem tabX_no {pl:List (Arg×List En)} (hok:(List.range (pl.map Prod.fst).length).all (okJ pl)=false) (s:ByteArray) (tx:Int):tabX s pl tx=errG 8:=by
 unfold tabX
 split
 ·unfold zCG;rw[hok];rfl
 ·split
  ·unfold zBE;rw[hok];rfl
  ·unfold zBH;rw[hok];simp
  ·unfold zBT;rw[hok];simp
  ·rfl
theorem good_tabP {C:Prop} {pl:List (Arg×List En)} (hC:C->NoCycle pl) (h64:∀ p∈pl,Is64 p.1.val.num/\∀ e∈p.2,Is64 e.v.num) (hn9:∀ p∈pl,p.1.n<=1048576) (hlen:∀ p∈pl,p.2.length=p.1.n) (s:ByteArray) (tx:Int):Good C (tabX s pl tx):=by
 have h8:Good C (errG 8):=zAP _ fun _=>by decide
 cases hok:(List.range (pl.map Prod.fst).length).all (okJ pl) with
 | false=>rw[tabX_no hok];exact h8
 | true =>
   have hg:=goodIn_of hC h64 hn9 hlen hok
   have hv:∀ v∈(pl.map Prod.fst).map Arg.val,Good C v:=fun v hv=>by
    obtain⟨a,ha,rfl⟩:=List.mem_map.1 hv
    obtain⟨p,hp,rfl⟩:=List.mem_map.1 ha
    exact(hg.g p hp).1
   unfold tabX
   split
   ·unfold zCG
    refine zA1 ?_ h8
    exact good_ownDo _ _ _ hv
   ·split
    ·unfold zBE
     exact zA1 (zA1 (good_nums _ _ _ hv) h8) h8
    ·unfold zBH
     exact zA1 h8 (zA1 (zA1 (good_texts _ _ _ _ hv) h8) h8)
    ·unfold zBT
     refine zA1 h8 (zA1 ?_ h8)
     cases htk:zBB s ((pl.map Prod.fst).map Arg.many) with
     | false=>exact h8
     | true =>
       rw[if_pos rfl]
       unfold zCH
       split
       ·rename_i v hf
        exact hv v (List.mem_of_find?_eq_some hf)
       ·refine good_aggDo s tx hg ?_
        obtain⟨_,_,_,_,_,_,h16,_⟩:=takesA_len htk
        rw[List.length_map,List.length_map] at h16
        have h1:=items_bound pl fun p hp=>by have:=hlen p hp;have:=hn9 p hp;omega
        omega
    ·exact h8
def nrm (p:Arg×List En):Arg×List En:=(⟨p.1.many,p.1.val,p.1.top,p.1.left,p.1.bottom,p.1.right,none,p.1.n,0⟩,p.2)
theorem nrm_strip {p:Arg×List En} (hw:WfP p) (hn:p.2.length=p.1.n):nrm (zAH p).arg=nrm p:=by
 unfold zAH
 cases hm:p.1.many
 ·have h:=hw.1 hm
  rw[if_neg (by decide)]
  rw[h]
  rfl
 ·have h:=hw.2 hm
  rw[if_pos rfl]
  unfold nrm It.arg rArg
  simp only[hm,h,hn]
theorem getD_nrm (pl:List (Arg×List En)) (i:Nat):(pl.map nrm).getD i p0A=nrm (pl.getD i p0A):=by
 rw[List.getD_eq_getElem?_getD,List.getD_eq_getElem?_getD,List.getElem?_map]
 cases pl[i]? <;>rfl
theorem itemsG_nrm (pl:List (Arg×List En)):zA4 (pl.map nrm)=zA4 pl:=by
 unfold zA4
 rw[List.flatMap_map]
 rfl
theorem okJ_nrm (pl:List (Arg×List En)):okJ (pl.map nrm)=okJ pl:=by
 funext j
 unfold okJ
 rw[getD_nrm]
 rfl
theorem joinG_nrm (tx:Int) (p:Arg×List En) (pl:List (Arg×List En)):joinG tx (nrm p) (pl.map nrm)=joinG tx p pl:=by
 unfold joinG
 rw[itemsG_nrm]
 rfl
theorem drop_nrm (pl:List (Arg×List En)):(pl.map nrm).drop 1=(pl.drop 1).map nrm:=List.map_drop.symm
theorem aggDo_nrm (s:ByteArray) (tx:Int) (pl:List (Arg×List En)):aggDo s tx (pl.map nrm)=aggDo s tx pl:=by
 unfold aggDo
 simp only[drop_nrm,getD_nrm,itemsG_nrm,joinG_nrm]
 rfl
theorem many_nrm (pl:List (Arg×List En)):((pl.map nrm).map Prod.fst).map Arg.many=(pl.map Prod.fst).map Arg.many:=by
 rw[List.map_map,List.map_map,List.map_map]
 rfl
theorem val_nrm (pl:List (Arg×List En)):((pl.map nrm).map Prod.fst).map Arg.val=(pl.map Prod.fst).map Arg.val:=by
 rw[List.map_map,List.map_map,List.map_map]
 rfl
theorem len_nrm (pl:List (Arg×List En)):((pl.map nrm).map Prod.fst).length=(pl.map Prod.fst).length:=by simp
theorem tabX_nrm (s:ByteArray) (tx:Int) (pl:List (Arg×List En)):tabX s (pl.map nrm) tx=tabX s pl tx:=by
 unfold tabX zCG zBE zBH zBT zCH
 simp only[okJ_nrm,many_nrm,val_nrm,len_nrm,aggDo_nrm]
theorem tabP_strip (s:ByteArray) (tx:Int) (args:List (Arg×List En)) (hw:∀ p∈args,WfP p) (hn:∀ p∈args,p.2.length=p.1.n):tabX s args tx=tabP s (args.map zAH) tx:=by
 unfold tabP
 rw[<- tabX_nrm s tx args,<-tabX_nrm s tx ((args.map zAH).map It.arg)]
 congr 1
 rw[List.map_map,List.map_map]
 exact List.map_congr_left fun p hp=>(nrm_strip (hw p hp) (hn p hp)).symm
def manyL (pl:List (Arg×List En)):List Bool:=pl.map fun p=>p.1.many
theorem shape1 {pl:List (Arg×List En)} {l3:List Bool} (hwf:∀ p∈pl,WfP p) (h:manyL pl=l3++[false]):∃ pre v,pl=pre++[(vArg v,[])]/\manyL pre=l3:=by
 rcases List.eq_nil_or_concat pl with rfl|⟨pre,p,rfl⟩
 ·have:=congrArg List.length h
  simp[manyL] at this
 ·rw[List.concat_eq_append] at *
  have h2:manyL pre++[p.1.many]=l3++[false]:=by rw[<- h];simp[manyL]
  have h3:=List.append_inj' h2 rfl
  have hm:p.1.many=false:=by have:=h3.2;simpa using this
  have hp:=(hwf p (by simp)).1 hm
  exact⟨pre,p.1.val,by rw[<- hp],h3.1⟩
theorem shape2 {pl:List (Arg×List En)} {l3:List Bool} (hwf:∀ p∈pl,WfP p) (h:manyL pl=l3++[false,false]):∃ pre u v,pl=pre++[(vArg u,[]),(vArg v,[])]/\manyL pre=l3:=by
 obtain⟨pre,v,rfl,h1⟩:=shape1 hwf (l3:=l3++[false]) (by rw[h];simp)
 obtain⟨pre2,u,rfl,h2⟩:=shape1 (fun p hp=>hwf p (List.mem_append_left _ hp)) h1
 exact⟨pre2,u,v,by simp,h2⟩
theorem shapeN {pl:List (Arg×List En)} {l3:List Bool} (h:manyL pl=l3) (k:Nat) (hk:k<=l3.length):∃ pre args,pl=pre++args/\args.length=k/\manyL pre=l3.take (l3.length-k):=by
 have hl:pl.length=l3.length:=by rw[<- h];simp[manyL]
 refine⟨pl.take (pl.length-k),pl.drop (pl.length-k),(List.take_append_drop _ _).symm,by rw[List.length_drop];omega,?_⟩
 rw[<- h]
 unfold manyL
 rw[List.map_take,List.length_map]
end Go.Proofs.YtppghgnhlgoagaaGreatDoor
