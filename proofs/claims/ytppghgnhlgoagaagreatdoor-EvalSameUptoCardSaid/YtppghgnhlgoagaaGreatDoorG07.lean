/- Parts. -/
import Derived.Test.YtppghgnhlgoagaaGreatDoorG06
import Derived.Deep.AppendLies
import Derived.Deep.RegionLaw
set_option linter.all false
set_option maxRecDepth 100000
set_option maxHeartbeats 4000000
namespace Go.Proofs.YtppghgnhlgoagaaGreatDoor
open Go Go.RowKit
open Go.Lib renaming hid->zh
theorem En.cells_length (e:En):e.cells.length=7:=rfl
def VO:V:=⟨0,0,⟨#[]⟩,false,0⟩
def findN (l:List En) (r c:Int):V:=match l.find? (fun e=>e.row==r&&e.col==c) with
 | some e=>e.v
 | none=>VO
structure Ak where
 host:Bool
 n:Int
 row:Int
 col:Int
 top:Int
 left:Int
 bottom:Int
 right:Int
deriving DecidableEq
def Ak.cells (a:Ak):List Value:=[.bool a.host,.int .i64 a.n,.int .i64 a.row,.int .i64 a.col,.int .i64 a.top,.int .i64 a.left,.int .i64 a.bottom,.int .i64 a.right]
theorem Ak.cells_length (a:Ak):a.cells.length=8:=rfl
theorem Ak.cells_one (a:Ak):∀ u∈a.cells,u.oneCell'=true:=by
 intro u hu
 simp only[Ak.cells,List.mem_cons,List.not_mem_nil,or_false] at hu
 rcases hu with rfl|rfl|rfl|rfl|rfl|rfl|rfl|rfl<;>rfl
def akCell (r c:Int):Ak:=⟨false,0,r,c,0,0,0,0⟩
def akHost (n:Int):Ak:=⟨true,n,0,0,0,0,0,0⟩
def akRect (t l b r:Int):Ak:=⟨false,0,0,0,t,l,b,r⟩
structure Td where
 n:Int
 v:V
def Td.cells (e:Td):List Value:=[.int .i64 e.n,.int .i64 e.v.tag,.int .i64 e.v.num,.string e.v.str,.bool e.v.is,.int .i64 e.v.code]
theorem Td.cells_length (e:Td):e.cells.length=6:=rfl
theorem info_K:(Tryz.prog.info? 113).map (fun i=>(i.zero,i.size,i.bytes))=some (some (.agg #[.bool false,.int .i64 0,.int .i64 0,.int .i64 0,.int .i64 0,.int .i64 0,.int .i64 0,.int .i64 0]),8,64):=by kernel_rfl
def ReadsN (w:World) (B pt size:Nat) (A:Option Addr) (n:Nat) (xs:List Value):Prop :=
 xs.length=n*size/\(0<n->∃ b off,A=some ⟨b,off,none⟩/\b<B/\b≠pt/\∀ j u,xs[j]? =some u->w.cell? ⟨b,off+j,none⟩=some u)
theorem ReadsN.keep {w w':World} {B pt size n:Nat} {A:Option Addr} {xs:List Value} (h:ReadsN w B pt size A n xs) (hk:∀ b,b<B->b≠pt->w'.heap[b]? =w.heap[b]?):ReadsN w' B pt size A n xs :=
 ⟨h.1,fun hn=>by
  obtain⟨b,off,e,h1,h2,h3⟩:=h.2 hn
  exact⟨b,off,e,h1,h2,fun j u hu=>(World.cell?_of_block (a:=⟨b,off+j,none⟩) (hk b h1 h2)).trans (h3 j u hu)⟩⟩
structure Tb where
 pt:Nat
 A:Option Addr
 c:Nat
 ents:List En
 hn:Bool
 ta:Option Addr
 tc:Nat
 told:List Td
 tp:Nat
 hb:Bool
structure SrcG (w:World) (B:Nat) (t:Tb) (asked:Value) (na:Nat) (L:List Value):Prop where
 lt:t.pt<B
 le:B<=w.heap.size
 at0:AtB w t.pt [.slice t.A t.ents.length t.c,asked,.bool t.hb,.slice t.ta t.told.length t.tc]
 fr:w.frozen? ⟨t.pt,1,none⟩=false
 en:ReadsN w B t.pt 7 t.A t.ents.length (zBi En.cells t.ents)
 tl:ReadsN w B t.pt 6 t.ta t.told.length (zBi Td.cells t.told)
 own:w.ownsRow B 113 8 asked na L
def zBu (pt:Nat) (row:Option Nat) (w w':World):Prop:=w'.os=w.os/\w'.tape=w.tape/\w'.output=w.output/\w.heap.size<=w'.heap.size/\∀ k,k<w.heap.size->k≠pt->row≠some k->w'.heap[k]? =w.heap[k]?
theorem zBu.of_below {pt:Nat} {row:Option Nat} {w w':World} (h:Below w.heap.size w w'):zBu pt row w w':=⟨h.os,h.tape,h.output,h.size,fun k hk _ _=>h.block k hk⟩
theorem zBu.trans {pt:Nat} {row row1:Option Nat} {w w1 w2:World} (h:zBu pt row w w1) (h2:zBu pt row1 w1 w2) (hr:row1=row∨∀ k,row1=some k->w.heap.size<=k):zBu pt row w w2:=by
 refine⟨h2.1.trans h.1,h2.2.1.trans h.2.1,h2.2.2.1.trans h.2.2.1,Nat.le_trans h.2.2.2.1 h2.2.2.2.1,fun k hk hp hn=> ?_⟩
 have h3:=h.2.2.2.1
 rw[h2.2.2.2.2 k (by omega) hp (by
  rcases hr with rfl|hr
  ·exact hn
  ·intro e
   have:=hr k e
   omega),h.2.2.2.2 k hk hp hn]
theorem zBu.cell {pt:Nat} {row:Option Nat} {w w':World} (h:zBu pt row w w') {b i:Nat} {v:Value} (hp:b≠pt) (hr:row≠some b) (hc:w.cell? ⟨b,i,none⟩=some v):w'.cell? ⟨b,i,none⟩=some v :=
 (World.cell?_of_block (a:=⟨b,i,none⟩) (h.2.2.2.2 b (World.block_lt_of_cell? w _ hc) hp hr)).trans hc
theorem SrcG.below {w w':World} {B:Nat} {t:Tb} {asked:Value} {na:Nat} {L:List Value} (h:SrcG w B t asked na L) (hb:Below w.heap.size w w'):SrcG w' B t asked na L:=by
 have hle:=h.le
 have hlt:=h.lt
 exact⟨h.lt,Nat.le_trans h.le hb.size,h.at0.below hb,(World.frozen?_of_block (a:=⟨t.pt,1,none⟩) (hb.block t.pt (by omega))).trans h.fr,h.en.keep fun b hb1 _=>hb.block b (by omega),h.tl.keep fun b hb1 _=>hb.block b (by omega),zA7 h.own hb⟩
theorem zBX {w:World} {p i:Nat} (h:w.frozen? ⟨p,i,none⟩=false) (hp:p<w.heap.size) (o:Obj):(w.alloc o).frozen? ⟨p,i,none⟩=false :=
 (World.frozen?_of_block (a:=⟨p,i,none⟩) (heap_alloc_old w o hp)).trans h
theorem alz (w:World) (o:Obj):(w.alloc o).heap.size=w.heap.size+1:=by simp
theorem drz (w:World):w.drew.heap.size=w.heap.size:=rfl
theorem zBg {w:World} {p i:Nat} (h:w.frozen? ⟨p,i,none⟩=false):w.drew.frozen? ⟨p,i,none⟩=false:=h
theorem eq_cells (r c r' c':Int) (w:World):(binOp .eql 55 (.agg #[.int .i64 r,.int .i64 c]) (.agg #[.int .i64 r',.int .i64 c'])).run Tryz.prog w=.ok (.bool (r==r'&&c==c')) w:=by
 rw[run_eql_struct]
 go_simp
 by_cases h1:r=r'<;>by_cases h2:c=c'<;>simp[h1,h2]
theorem SrcG.noted {w X w1:World} {B:Nat} {t:Tb} {asked:Value} {na g cap:Nat} {L L':List Value} (hs:SrcG w B t asked na L) (hX:Below w.heap.size w X) (hgrow:X.grownBy w1 asked.ownBlock)
  (hown:w1.ownsRow B 113 8 (.slice (some ⟨g,0,none⟩) (na+1) cap) (na+1) L') (hat:asked.ownBlock=some g∨g=X.heap.size) :
  SrcG (w1.setCell ⟨t.pt,1,none⟩ (.slice (some ⟨g,0,none⟩) (na+1) cap)) B t (.slice (some ⟨g,0,none⟩) (na+1) cap) (na+1) L'/\zBu t.pt asked.ownBlock w (w1.setCell ⟨t.pt,1,none⟩ (.slice (some ⟨g,0,none⟩) (na+1) cap)) /\
   ((Value.slice (some ⟨g,0,none⟩) (na+1) cap).ownBlock=asked.ownBlock∨∀ k,(Value.slice (some ⟨g,0,none⟩) (na+1) cap).ownBlock=some k->w.heap.size<=k) /\
   ∀ k,k<X.heap.size->w.heap.size<=k->asked.ownBlock≠some k->(w1.setCell ⟨t.pt,1,none⟩ (.slice (some ⟨g,0,none⟩) (na+1) cap)).heap[k]? =X.heap[k]? :=by
 have hle:=hs.le
 have hlt:=hs.lt
 have hsz:=hX.size
 have hrow:∀ k,asked.ownBlock=some k->B<=k:=fun k hk=>(hs.own.lt k hk).1
 have hnp:some t.pt≠asked.ownBlock:=fun e=>by have:=hrow t.pt e.symm;omega
 have hk1:∀ k,k<X.heap.size->some k≠asked.ownBlock->w1.heap[k]? =X.heap[k]? :=hgrow.block
 have hset:∀ (u:Value) k,k≠t.pt->(w1.setCell ⟨t.pt,1,none⟩ u).heap[k]? =w1.heap[k]? :=fun u k hk=>heap_setCell_other w1 ⟨t.pt,1,none⟩ k u hk
 have c0:=hs.at0 0 _ rfl
 have c1:=hs.at0 1 _ rfl
 have c2:=hs.at0 2 _ rfl
 have c3:=hs.at0 3 _ rfl
 have hpt1:w1.heap[t.pt]? =w.heap[t.pt]? :=(hk1 t.pt (by omega) hnp).trans (hX.block t.pt (by omega))
 have d0:=(World.cell?_of_block (a:=⟨t.pt,0,none⟩) hpt1).trans c0
 have d1:=(World.cell?_of_block (a:=⟨t.pt,1,none⟩) hpt1).trans c1
 have d2:=(World.cell?_of_block (a:=⟨t.pt,2,none⟩) hpt1).trans c2
 have d3:=(World.cell?_of_block (a:=⟨t.pt,3,none⟩) hpt1).trans c3
 have df:=(World.frozen?_of_block (a:=⟨t.pt,1,none⟩) hpt1).trans hs.fr
 have hB:∀ b,b<B->b≠t.pt->(w1.setCell ⟨t.pt,1,none⟩ (.slice (some ⟨g,0,none⟩) (na+1) cap)).heap[b]? =w.heap[b]? :=fun b h1 h2 =>
  (hset _ b h2).trans ((hk1 b (by omega) (fun e=>by have:=hrow b e.symm;omega)).trans (hX.block b (by omega)))
 refine⟨⟨hlt,?_,?_,?_,hs.en.keep hB,hs.tl.keep hB,ownsRow_setCell_below hown (by simpa using hlt) _⟩,⟨?_,?_,?_,?_,?_⟩,?_,?_⟩
 ·have:=hgrow.size
  simp
  omega
 ·intro j u hu
  match j,hu with
  | 0,hu =>
    cases hu
    exact(World.cell?_setCell_other _ _ _ _ (by simp)).trans d0
  | 1,hu =>
    cases hu
    exact World.cell?_setCell_same _ _ _ d1
  | 2,hu =>
    cases hu
    exact(World.cell?_setCell_other _ _ _ _ (by simp)).trans d2
  | 3,hu =>
    cases hu
    exact(World.cell?_setCell_other _ _ _ _ (by simp)).trans d3
  | _+4,hu=>cases hu
 ·simpa using df
 ·exact hgrow.os.trans hX.os
 ·exact hgrow.tape.trans hX.tape
 ·exact hgrow.output.trans hX.output
 ·have:=hgrow.size
  simp
  omega
 ·intro k hk hp hr
  exact(hset _ k hp).trans ((hk1 k (by omega) (fun e=>hr e.symm)).trans (hX.block k hk))
 ·rcases hat with h|h
  ·exact .inl h.symm
  ·right
   intro k hk
   have:k=g:=by simpa [Value.ownBlock] using hk.symm
   omega
 ·intro k hk hk2 hr
  exact(hset _ k (by omega)).trans (hk1 k hk (fun e=>hr e.symm))
theorem grown_set (w:World) (b i:Nat) (u:Value):w.grownBy (w.setCell ⟨b,i,none⟩ u) (some b):=⟨rfl,rfl,rfl,by simp,fun k _ hk=>heap_setCell_other w ⟨b,i,none⟩ k u (fun e=>hk (by simp[e]))⟩
theorem SrcG.set {w:World} {B:Nat} {t:Tb} {asked:Value} {na:Nat} {L:List Value} (h:SrcG w B t asked na L) {b i:Nat} {u:Value} (h1:B<=b) (h3:asked.ownBlock≠some b):SrcG (w.setCell ⟨b,i,none⟩ u) B t asked na L:=by
 have hlt:=h.lt
 have hk:∀ k,k<B->k≠t.pt->(w.setCell ⟨b,i,none⟩ u).heap[k]? =w.heap[k]? :=fun k h2 _=>heap_setCell_other w ⟨b,i,none⟩ k u (by show k≠b;omega)
 exact⟨h.lt,by simpa using h.le,fun j v hv=>(World.cell?_setCell_other _ _ _ _ (by intro e;have e2:=congrArg Addr.block e;dsimp only[vG] at e2;omega)).trans (h.at0 j v hv),by simpa using h.fr,h.en.keep hk,h.tl.keep hk,h.own.kept (grown_set w b i u) (.inr h3)⟩
theorem zBu.set {pt:Nat} {row:Option Nat} {w w':World} (h:zBu pt row w w') {b i:Nat} {u:Value} (hb:w.heap.size<=b):zBu pt row w (w'.setCell ⟨b,i,none⟩ u) :=
 ⟨h.1,h.2.1,h.2.2.1,by simpa using h.2.2.2.1,fun k hk hp hr=>(heap_setCell_other w' ⟨b,i,none⟩ k u (by show k≠b;omega)).trans (h.2.2.2.2 k hk hp hr)⟩
theorem zBu.below {pt:Nat} {row:Option Nat} {w w1 w2:World} (h:zBu pt row w w1) (hb:Below w1.heap.size w1 w2):zBu pt row w w2:=h.trans (zBu.of_below (row:=row) hb) (.inl rfl)
theorem zAa {W:World} {a:Addr} {u:Value} (h:(W.cell? a).isSome=true):(W.setCell a u).cell? a=some u:=by
 obtain⟨v,hv⟩:=Option.isSome_iff_exists.1 h
 exact World.cell?_setCell_same _ _ _ hv
theorem find_take {α:Type} (f:α->Bool) (l:List α) (j:Nat) (e:α) (he:l[j]? =some e) (hn:(l.take j).find? f=none) (hf:f e=false):(l.take (j+1)).find? f=none:=by
 rw[zBc he,List.find?_append,hn]
 simp[hf]
theorem find_hit {α:Type} (f:α->Bool) (l:List α) (j:Nat) (e:α) (he:l[j]? =some e) (hn:(l.take j).find? f=none) (hf:f e=true):l.find? f=some e:=by
 have h1:l=l.take (j+1)++l.drop (j+1):=(List.take_append_drop _ _).symm
 rw[h1,List.find?_append,zBc he,List.find?_append,hn]
 simp[hf]
theorem table_CellG (r c:Int) (w:World) (B:Nat) (t:Tb) (asked:Value) (na:Nat) (L:List Value) (hs:SrcG w B t asked na L) (hn:t.ents.length<=1000000000) (ha:na<=1000000) :
  Calls Tryz.prog 365 #[.pointer (some ⟨t.pt,0,none⟩),.agg #[.int .i64 r,.int .i64 c]] w fun e w'=>e=.returned (vG (findN t.ents r c))/\∃ asked',SrcG w' B t asked' (na+1) (L++(akCell r c).cells)/\zBu t.pt asked.ownBlock w w'/\(asked'.ownBlock=asked.ownBlock∨∀ k,asked'.ownBlock=some k->w.heap.size<=k):=by
 obtain⟨pt,A,cc,ents,hn9,ta,tc,told,ftb,hb9⟩:=t
 dsimp only[vG] at hs hn ⊢
 have HS:=zh hs
 have hlt0:pt<B:=hs.lt
 have p0:w.cell? ⟨pt,0,none⟩=some (.slice A ents.length cc):=hs.at0 0 _ rfl
 have p1:w.cell? ⟨pt,1,none⟩=some asked:=hs.at0 1 _ rfl
 have pf:w.frozen? ⟨pt,1,none⟩=false:=hs.fr
 have lp:=zA2 p0
 obtain⟨i0,hi,hz0,hz1,hz2⟩:=info_parts info_K
 have HNE:=zh (show some pt≠asked.ownBlock from fun e=>by have:=(hs.own.lt pt e.symm).1;omega)
 have HNE2:=zh (show some w.heap.size≠asked.ownBlock from fun e=>by have:=(hs.own.lt _ e.symm).2;omega)
 have HNE3:=zh (show some (w.heap.size+1)≠asked.ownBlock from fun e=>by have:=(hs.own.lt _ e.symm).2;omega)
 have nw:=World.new_ne w ⟨pt,1,none⟩ p1
 have lp1:pt<w.heap.size+1:=by omega
 have lp2:pt<w.heap.size+1+1:=by omega
 have lp3:pt<w.heap.size+1+1+1:=by omega
 clear hs
 go_enter Tryz.func365,Tryz.ntmps365
 go_wp2_with fail
 go_cut [14] (fun ag wx=>∃ asked',SrcG wx B ⟨pt,A,cc,ents,hn9,ta,tc,told,ftb,hb9⟩ asked' (na+1) (L++(akCell r c).cells)/\zBu pt asked.ownBlock w wx/\(asked'.ownBlock=asked.ownBlock∨∀ k,asked'.ownBlock=some k->w.heap.size<=k)/\(∀ k,asked'.ownBlock=some k->k≠w.heap.size+1)/\wx.heap[w.heap.size]? =some (.cells #[.int .i64 r,.int .i64 c] 55 (0,0))/\wx.heap[w.heap.size+1]? =some (.cells #[.int .i64 0,.int .i64 0,.string ⟨#[]⟩,.bool false,.int .i64 0] 44 (0,0)))
 case first =>
  go_region_law
   ((refine step_append_lies _ (by rfl) _ _ _ (by rfl) B 113 i0 _ 8 64 Tryz.underlying50 hi hz0 hz1 hz2 (by rfl) (by decide) asked na L (by rfl) (zA7 HS.out.own bel) _ 1 1 ((akCell r c).cells) (by rfl) (by rfl) (by exact fun i u hu=>zAJ (by simp) i u hu) (Ak.cells_one _) (by decide) (by simp only[maxLen];omega) (by omega) (by have:=HS.out.le;simp;omega) _ rfl ?_;intro g cap w1 hown1 hgrow hat hlt;have q1:w1.cell? ⟨pt,1,none⟩=some asked:=(hgrow.cell_far _ (by go_size) HNE.out).trans (by (repeat(first|with_reducible assumption|with_reducible refine zAT ?_|with_reducible refine zAB ?_ _|with_reducible refine zBg ?_|with_reducible refine zBX ?_ (by go_size) _)));have qf:w1.frozen? ⟨pt,1,none⟩=false:=(hgrow.frozen_far _ (by go_size) HNE.out).trans (by (repeat(first|with_reducible assumption|with_reducible refine zAT ?_|with_reducible refine zAB ?_ _|with_reducible refine zBg ?_|with_reducible refine zBX ?_ (by go_size) _)))))
  all_goals
   go_wp2_with fail
   go_meet
   obtain⟨n1,n2,n3,n4⟩:=SrcG.noted HS.out (by repeat(first|with_reducible exact Below.refl _ _|with_reducible assumption|with_reducible refine zBx ?_ _ (by go_size)|with_reducible refine Below.drew ?_)) hgrow hown1 hat
   exact⟨_,n1,n2,n3,(fun k hk=>by
     have hg:k=g:=by simpa [Value.ownBlock] using hk.symm
     subst hg
     rcases hat with h|h
     ·have:=(HS.out.own.lt _ h).2;omega
     ·simp at h;omega),
    (n4 _ (by (repeat(first|rw[alz]|rw[drz]));omega) (Nat.le_refl _) (fun e=>HNE2.out e.symm)).trans ((heap_alloc_old _ _ (by (repeat(first|rw[alz]|rw[drz]));omega)).trans ((heap_alloc_old _ _ (by (repeat(first|rw[alz]|rw[drz]));omega)).trans (heap_alloc_new w _))),
    (n4 _ (by (repeat(first|rw[alz]|rw[drz]));omega) (by omega) (fun e=>HNE3.out e.symm)).trans ((heap_alloc_old _ _ (by (repeat(first|rw[alz]|rw[drz]));omega)).trans (by have h:=heap_alloc_new (w.alloc (.cells #[.int .i64 r,.int .i64 c] 55)) zObj;simpa using h))⟩
 case rest =>
  obtain⟨asked',hs',hk,hw',hno,hbx,hbv⟩:=hcut
  have bx0:=cell_of_row wc w.heap.size 0 _ _ (0,0) hbx
  have bx1:=cell_of_row wc w.heap.size 1 _ _ (0,0) hbx
  have bv:∀ i u,(#[.int .i64 0,.int .i64 0,.string ⟨#[]⟩,.bool false,.int .i64 0]:Array Value)[i]? =some u->wc.cell? ⟨w.heap.size+1,i,none⟩=some u:=fun i u hu=>(cell_of_row wc (w.heap.size+1) i _ _ (0,0) hbv).trans hu
  have bf:∀ i,wc.frozen? ⟨w.heap.size+1,i,none⟩=false:=fun i=>frozen_of_row wc (w.heap.size+1) i _ _ hbv
  have lbv:w.heap.size+1<wc.heap.size:=zA2 (bv 0 _ rfl)
  have KS:=zh hs'
  have KK:=zh hk
  have KW:=zh hw'
  have KN:=zh hno
  have BX0:=zh (show wc.cell? ⟨w.heap.size,0,none⟩=some (.int .i64 r) from bx0)
  have BX1:=zh (show wc.cell? ⟨w.heap.size,1,none⟩=some (.int .i64 c) from bx1)
  have BV:=zh bv
  have BF:=zh bf
  have hBS:=zh HS.out.le
  have hltp:pt<B:=HS.out.lt
  clear hs' hk hw' hno hbx hbv bx0 bx1 bv bf p0 p1 pf
  go_wp2
  go_loopw [5] (fun t5 wr=>∃ j:Nat,j<=ents.length/\t5=.int .i64 j/\Below wc.heap.size wc wr/\(ents.take j).find? (fun e=>e.row==r&&e.col==c)=none) (fun t _=>ents.length-(intOf t).toNat)
  case atStart=>exact⟨0,Nat.zero_le _,rfl,Below.refl _ _,by simp⟩
  case round =>
   obtain⟨j,hj,rfl,hB,hno⟩:=hrel
   have q0:wr.cell? ⟨pt,0,none⟩=some (.slice A ents.length cc):=cell_below (KS.out.at0 0 _ rfl) hB
   have q1:=cell_below BX0.out hB
   have q2:=cell_below BX1.out hB
   have v0:=cell_below (BV.out 0 _ rfl) hB
   have v1:=cell_below (BV.out 1 _ rfl) hB
   have v2:=cell_below (BV.out 2 _ rfl) hB
   have v3:=cell_below (BV.out 3 _ rfl) hB
   have v4:=cell_below (BV.out 4 _ rfl) hB
   have vf:∀ i,wr.frozen? ⟨w.heap.size+1,i,none⟩=false:=fun i=>(World.frozen?_of_block (a:=⟨w.heap.size+1,i,none⟩) (hB.block _ lbv)).trans (BF.out i)
   have f0:=vf 0
   have f1:=vf 1
   have f2:=vf 2
   have f3:=vf 3
   have f4:=vf 4
   clear vf
   have HB:=zh hB
   have HNO:=zh hno
   have lq:=zA2 q0
   have lv:=zA2 v0
   by_cases hlt:j<ents.length
   ·obtain⟨x,hx⟩:∃ x,ents[j]? =some x:=⟨_,List.getElem?_eq_getElem hlt⟩
    obtain⟨pc,off,eA,hpc1,hpc2,hpc3⟩:=KS.out.en.2 (show 0<ents.length by omega)
    have eA:A=some ⟨pc,off,none⟩:=eA
    subst eA
    have hc:∀ i u,x.cells[i]? =some u->wr.cell? ⟨pc,off+(j*7+i),none⟩=some u:=fun i u hu=>cell_below (hpc3 _ u (zA9 En.cells 7 En.cells_length ents j x hx i u hu)) hB
    have e0:wr.cell? ⟨pc,off+j*7,none⟩=some (.int .i64 x.row):=hc 0 _ rfl
    have e1:wr.cell? ⟨pc,off+j*7+1,none⟩=some (.int .i64 x.col):=hc 1 _ rfl
    have e2:wr.cell? ⟨pc,off+j*7+2,none⟩=some (.int .i64 x.v.tag):=hc 2 _ rfl
    have e3:wr.cell? ⟨pc,off+j*7+3,none⟩=some (.int .i64 x.v.num):=hc 3 _ rfl
    have e4:wr.cell? ⟨pc,off+j*7+4,none⟩=some (.string x.v.str):=hc 4 _ rfl
    have e5:wr.cell? ⟨pc,off+j*7+5,none⟩=some (.bool x.v.is):=hc 5 _ rfl
    have e6:wr.cell? ⟨pc,off+j*7+6,none⟩=some (.int .i64 x.v.code):=hc 6 _ rfl
    have he:=eq_cells x.row x.col r c
    have HX:=zh hx
    have i1:(0:Int)<=(j:Int):=by omega
    have i2:(j:Int)<(ents.length:Int):=by omega
    clear hc hx hB hno hpc1 hpc2 hpc3
    obtain⟨q,hq⟩:∃ q,q=(x.row==r&&x.col==c):=⟨_,rfl⟩
    rw[<- hq] at he
    have HQ:=zh hq
    clear hq
    cases q with
    | true =>
      go_wp2
      go_quiet (fail)
      all_goals go_wp2
      all_goals
       have hB:=HB.out
       have ha1:B<=w.heap.size+1:=by have:=hBS.out;omega
       have ha3:asked'.ownBlock≠some (w.heap.size+1):=fun e=>KN.out _ e rfl
       have ha4:w.heap.size<=w.heap.size+1:=by omega
       have hfe:findN ents r c=x.v:=by unfold findN;rw[find_hit _ ents j x HX.out HNO.out HQ.out.symm]
       exact bodyPost_ret (by simp[results,Tryz.results365,go_sem,zAa,v0,v1,v2,v3,v4];try rfl) rfl ⟨by rw[hfe],asked',((((((KS.out.below bel).set ha1 ha3).set ha1 ha3).set ha1 ha3).set ha1 ha3).set ha1 ha3),((((((KK.out.below bel).set ha4).set ha4).set ha4).set ha4).set ha4),KW.out⟩
    | false =>
      go_wp2
      go_quiet (fail)
      all_goals go_wp2
      all_goals
       have hB:=HB.out
       exact⟨⟨j+1,by omega,by go_num,bel,find_take _ ents j x HX.out HNO.out HQ.out.symm⟩,by simp[intOf];omega⟩
   ·obtain rfl:j=ents.length:=by omega
    go_wp2
    have hB:=HB.out
    have ha1:B<=w.heap.size+1:=by have:=hBS.out;omega
    have ha3:asked'.ownBlock≠some (w.heap.size+1):=fun e=>KN.out _ e rfl
    have ha4:w.heap.size<=w.heap.size+1:=by omega
    have hfe:findN ents r c=VO:=by
     have h:=HNO.out
     rw[List.take_of_length_le (Nat.le_refl _)] at h
     unfold findN
     rw[h]
    exact bodyPost_ret (by simp[results,Tryz.results365,go_sem,zAa,v0,v1,v2,v3,v4];try rfl) rfl ⟨by rw[hfe];rfl,asked',((((((KS.out.below bel).set ha1 ha3).set ha1 ha3).set ha1 ha3).set ha1 ha3).set ha1 ha3),((((((KK.out.below bel).set ha4).set ha4).set ha4).set ha4).set ha4),KW.out⟩
def zCE (l:List En) (t le b r:Int):List En:=l.filter fun e=>inB t le b r e.row e.col
theorem rectN_yes {l:List En} {t le b r:Int} {j:Nat} {x:En} (hx:l[j]? =some x) (h:inB t le b r x.row x.col=true):zCE (l.take (j+1)) t le b r=zCE (l.take j) t le b r++[x]:=by
 unfold zCE
 rw[zBc hx,List.filter_append]
 simp[h]
theorem rectN_no {l:List En} {t le b r:Int} {j:Nat} {x:En} (hx:l[j]? =some x) (h:inB t le b r x.row x.col=false):zCE (l.take (j+1)) t le b r=zCE (l.take j) t le b r:=by
 unfold zCE
 rw[zBc hx,List.filter_append]
 simp[h]
theorem rectN_le (l:List En) (t le b r:Int):(zCE l t le b r).length<=l.length:=List.length_filter_le _ _
theorem info_En:(Tryz.prog.info? 57).map (fun i=>(i.zero,i.size,i.bytes))=some (some (.agg #[.int .i64 0,.int .i64 0,.int .i64 0,.int .i64 0,.string ⟨#[]⟩,.bool false,.int .i64 0]),7,64):=by kernel_rfl
theorem En.cells_one (e:En):∀ u∈e.cells,u.oneCell'=true:=by
 intro u hu
 simp only[En.cells,List.mem_cons,List.not_mem_nil,or_false] at hu
 rcases hu with rfl|rfl|rfl|rfl|rfl|rfl|rfl<;>rfl
theorem own_mono {w:World} {base base' e size n:Nat} {v:Value} {xs:List Value} (h:w.ownsRow base e size v n xs) (hb:base'<=base):w.ownsRow base' e size v n xs:=by
 refine⟨h.1,?_⟩
 rcases h.2 with h2|⟨g,cap,cur,e1,hg,rest⟩
 ·exact .inl h2
 ·exact .inr ⟨g,cap,cur,e1,Nat.le_trans hb hg,rest⟩
theorem table_RectG (t l b r:Int) (w:World) (B:Nat) (tb:Tb) (asked:Value) (na:Nat) (L:List Value) (hs:SrcG w B tb asked na L) (hn:tb.ents.length<=1048576) (ha:na<=1000000) :
  Calls Tryz.prog 366 #[.pointer (some ⟨tb.pt,0,none⟩),.agg #[.int .i64 t,.int .i64 l,.int .i64 b,.int .i64 r]] w fun e w'=>∃ v asked',e=.returned v/\w'.ownsRow w.heap.size 57 7 v (zCE tb.ents t l b r).length (zBi En.cells (zCE tb.ents t l b r)) /\
   SrcG w' B tb asked' (na+1) (L++(akRect t l b r).cells)/\zBu tb.pt asked.ownBlock w w'/\(asked'.ownBlock=asked.ownBlock∨∀ k,asked'.ownBlock=some k->w.heap.size<=k)/\∀ k,v.ownBlock=some k->asked'.ownBlock≠some k:=by
 obtain⟨pt,A,cc,ents,hn9,ta,tc,told,ftb,hb9⟩:=tb
 dsimp only at hs hn ⊢
 have HS:=zh hs
 have hlt0:pt<B:=hs.lt
 have p0:w.cell? ⟨pt,0,none⟩=some (.slice A ents.length cc):=hs.at0 0 _ rfl
 have p1:w.cell? ⟨pt,1,none⟩=some asked:=hs.at0 1 _ rfl
 have pf:w.frozen? ⟨pt,1,none⟩=false:=hs.fr
 have lp:=zA2 p0
 obtain⟨i0,hi,hz0,hz1,hz2⟩:=info_parts info_K
 have HNE:=zh (show some pt≠asked.ownBlock from fun e=>by have:=(hs.own.lt pt e.symm).1;omega)
 have HNE2:=zh (show some w.heap.size≠asked.ownBlock from fun e=>by have:=(hs.own.lt _ e.symm).2;omega)
 have nw:=World.new_ne w ⟨pt,1,none⟩ p1
 have lp1:pt<w.heap.size+1:=by omega
 have lp2:pt<w.heap.size+1+1:=by omega
 clear hs
 go_enter Tryz.func366,Tryz.ntmps366
 go_wp2_with fail
 go_cut [18] (fun aB wx=>∃ asked',SrcG wx B ⟨pt,A,cc,ents,hn9,ta,tc,told,ftb,hb9⟩ asked' (na+1) (L++(akRect t l b r).cells)/\zBu pt asked.ownBlock w wx/\(asked'.ownBlock=asked.ownBlock∨∀ k,asked'.ownBlock=some k->w.heap.size<=k)/\wx.heap[w.heap.size]? =some (.cells #[.int .i64 t,.int .i64 l,.int .i64 b,.int .i64 r] 86 (0,0)))
 case first =>
  go_region_law
   ((refine step_append_lies _ (by rfl) _ _ _ (by rfl) B 113 i0 _ 8 64 Tryz.underlying50 hi hz0 hz1 hz2 (by rfl) (by decide) asked na L (by rfl) (zA7 HS.out.own bel) _ 1 1 ((akRect t l b r).cells) (by rfl) (by rfl) (by exact fun i u hu=>zAJ (by simp) i u hu) (Ak.cells_one _) (by decide) (by simp only[maxLen];omega) (by omega) (by have:=HS.out.le;simp;omega) _ rfl ?_;intro g cap w1 hown1 hgrow hat hlt;have q1:w1.cell? ⟨pt,1,none⟩=some asked:=(hgrow.cell_far _ (by go_size) HNE.out).trans (by (repeat(first|with_reducible assumption|with_reducible refine zAT ?_|with_reducible refine zAB ?_ _|with_reducible refine zBg ?_|with_reducible refine zBX ?_ (by go_size) _)));have qf:w1.frozen? ⟨pt,1,none⟩=false:=(hgrow.frozen_far _ (by go_size) HNE.out).trans (by (repeat(first|with_reducible assumption|with_reducible refine zAT ?_|with_reducible refine zAB ?_ _|with_reducible refine zBg ?_|with_reducible refine zBX ?_ (by go_size) _)))))
  all_goals
   go_wp2_with fail
   go_meet
   obtain⟨n1,n2,n3,n4⟩:=SrcG.noted HS.out (by repeat(first|with_reducible exact Below.refl _ _|with_reducible assumption|with_reducible refine zBx ?_ _ (by go_size)|with_reducible refine Below.drew ?_)) hgrow hown1 hat
   exact⟨_,n1,n2,n3,
    (n4 _ (by (repeat(first|rw[alz]|rw[drz]));omega) (Nat.le_refl _) (fun e=>HNE2.out e.symm)).trans ((heap_alloc_old _ _ (by (repeat(first|rw[alz]|rw[drz]));omega)).trans (heap_alloc_new w _))⟩
 case rest =>
  obtain⟨asked',hs',hk,hw',hbx⟩:=hcut
  have BX:=zh (show ∀ i u,(#[.int .i64 t,.int .i64 l,.int .i64 b,.int .i64 r]:Array Value)[i]? =some u->wc.cell? ⟨w.heap.size,i,none⟩=some u from fun i u hu=>(cell_of_row wc w.heap.size i _ _ (0,0) hbx).trans hu)
  have KS:=zh hs'
  have KK:=zh hk
  have KW:=zh hw'
  obtain⟨i1,hi',hz0',hz1',hz2'⟩:=info_parts info_En
  have HWC:=zh (show w.heap.size<wc.heap.size from zA2 (BX.out 0 _ rfl))
  clear hs' hk hw' hbx p0 p1 pf hi hz0 hz1 hz2
  go_wp2
  go_loopw [6,5] (fun t6 t5 wr=>∃ j:Nat,j<=ents.length/\t6=.int .i64 j/\zAE wc wr 57 7 t5 (zCE (ents.take j) t l b r).length (zBi En.cells (zCE (ents.take j) t l b r))) (fun t6 _ _=>ents.length-(intOf t6).toNat)
  case atStart=>exact⟨0,Nat.zero_le _,rfl,Below.refl _ _,World.ownsRow_nil _ _ _ _⟩
  case round =>
   obtain⟨j,hj,rfl,hR⟩:=hrel
   have hB:=hR.1
   have q0:wr.cell? ⟨pt,0,none⟩=some (.slice A ents.length cc):=cell_below (KS.out.at0 0 _ rfl) hB
   have b0:=cell_below (BX.out 0 _ rfl) hB
   have b1:=cell_below (BX.out 1 _ rfl) hB
   have b2:=cell_below (BX.out 2 _ rfl) hB
   have b3:=cell_below (BX.out 3 _ rfl) hB
   have lq:=zA2 q0
   have lb:=zA2 b0
   have hsx:=hB.size
   have HR:=zh hR
   have HB:=zh hB
   by_cases hlt:j<ents.length
   ·obtain⟨x,hx⟩:∃ x,ents[j]? =some x:=⟨_,List.getElem?_eq_getElem hlt⟩
    obtain⟨pc,off,eA,hpc1,hpc2,hpc3⟩:=KS.out.en.2 (show 0<ents.length by omega)
    have eA:A=some ⟨pc,off,none⟩:=eA
    subst eA
    have hc:∀ i u,x.cells[i]? =some u->wr.cell? ⟨pc,off+(j*7+i),none⟩=some u:=fun i u hu=>cell_below (hpc3 _ u (zA9 En.cells 7 En.cells_length ents j x hx i u hu)) hB
    have e0:=hc 0 _ rfl
    have e1:=hc 1 _ rfl
    have e2:=hc 2 _ rfl
    have e3:=hc 3 _ rfl
    have e4:=hc 4 _ rfl
    have e5:=hc 5 _ rfl
    have e6:=hc 6 _ rfl
    simp only[<- Nat.add_assoc,Nat.add_zero] at e0 e1 e2 e3 e4 e5 e6
    have le0:=zA2 e0
    have hle:=rectN_le (ents.take j) t l b r
    rw[List.length_take] at hle
    have hi1:(0:Int)<=(j:Int):=by omega
    have hi2:(j:Int)<(ents.length:Int):=by omega
    have hin:=ref03_In t l b r x.row x.col
    have HX:=zh hx
    cases hq:inB t l b r x.row x.col
    ·rw[hq] at hin
     have hst:=rectN_no hx hq
     have HST:=zh hst
     have HIN:=zh hin
     clear hc hx hB hpc1 hpc2 hpc3 hR hst hq hin
     go_wp2
     (refine qmI ?_;(repeat(go_big_quiet_step ((go_at_call 30;exact Calls.zA6 (HIN.out _)))));refine qmE ?_;intro lq nq)
     go_wp2
     go_roundw
     case rel=>exact⟨j+1,by omega,by go_num,by rw[HST.out];exact HR.out.below bel⟩
     case measure=>simp[intOf];omega
    ·rw[hq] at hin
     have hst:=rectN_yes hx hq
     have HST:=zh hst
     have HIN:=zh hin
     clear hc hx hB hpc1 hpc2 hpc3 hR hst hq hin
     go_wp2
     (refine qmI ?_;(repeat(go_big_quiet_step ((go_at_call 30;exact Calls.zA6 (HIN.out _)))));refine qmE ?_;intro lq nq)
     go_wp2_with(at_builtin;refine wpList_append_own _ rfl _ _ 25 rfl wc.heap.size 57 i1 _ 7 64 Tryz.underlying25 hi' hz0' hz1' hz2' rfl (by decide) _ _ _ rfl (zA7 HR.out.2 bel) _ 1 1 (x.cells) rfl rfl ?_ ?_ ?_ ?_ ?_ ?_)
     all_goals first
      | exact En.cells_one _
      | (simp only[maxLen];omega)
      | omega
      | (have h1:=HR.out.1.size;simp at h1 ⊢;omega)
      | (exact fun i u hu=>zAJ (by simp) i u hu)
      | skip
     all_goals
      intro v' w1 hown' hgrow _
      have R1:=zAE.step HR.out bel (show w1.ownsRow wc.heap.size 57 7 v' ((zCE (ents.take j) t l b r).length+1) (zBi En.cells (zCE (ents.take j) t l b r)++x.cells) from by simpa using hown') hgrow
      have HR':=zh R1
      clear hown' hgrow R1 HR
      go_wp2
      go_roundw
      case rel=>exact⟨j+1,by omega,by go_num,by rw[HST.out,zAC,List.length_append];simpa [zBi] using HR'.out⟩
      case measure=>simp[intOf];omega
   ·obtain rfl:j=ents.length:=by omega
    rw[List.take_of_length_le (Nat.le_refl _)] at hR
    have HR2:=zh hR
    clear hB hR HR b0 b1 b2 b3
    go_wp2
    go_ret
    have hB:=HB.out
    exact⟨_,asked',rfl,own_mono HR2.out.2 (by have:=HWC.out;omega),KS.out.below bel,KK.out.below bel,KW.out,fun k hk e=>by
     have h1:=(HR2.out.2.lt k hk).1
     have h2:=(KS.out.own.lt k e).2
     omega⟩
end Go.Proofs.YtppghgnhlgoagaaGreatDoor
