/- Parts. -/
import Derived.Test.YtppghgnhlgoagaaGreatDoorG48
import Derived.Test.YtppghgnhlgoagaaGreatDoorG50
set_option linter.all false
set_option maxRecDepth 100000
set_option maxHeartbeats 4000000
namespace Go.Proofs.YtppghgnhlgoagaaGreatDoor
open Go Go.RowKit
def nearE (R:List Rf) (es:List En):List En:=es.filter fun e=>refdG R e.row e.col
def zBF (R:List Rf) (l:List En) (e:En):List En:=if refdG R e.row e.col then l else putG l e
def sameE (R:List Rf) (es other:List En):List En:=other.foldl (zBF R) (nearE R es)
theorem of_mem:∀ (xs:List Nx) (l:List Rf),(∀ r∈l,r∈xs.foldl zCD l)/\∀ x∈xs,∀ r,refN x=some r->r∈xs.foldl zCD l
 | [],l=>⟨fun r h=>h,fun x h=>by cases h⟩
 | y::xs,l=>by
   obtain⟨h1,h2⟩:=of_mem xs (zCD l y)
   have h3:∀ r∈l,r∈zCD l y:=fun r hr=>by
    unfold zCD
    cases refN y with
    | none=>exact hr
    | some r' =>
      dsimp only
      split
      ·exact hr
      ·exact List.mem_append_left _ hr
   refine⟨fun r hr=>h1 r (h3 r hr),fun x hx r hr=> ?_⟩
   rcases List.mem_cons.1 hx with rfl|hx
   ·refine h1 r ?_
    unfold zCD
    rw[hr]
    dsimp only
    split
    ·assumption
    ·simp
   ·exact h2 x hx r hr
theorem filter_put {p:En->Bool} (l:List En) {x:En} (hx:p x=false):(putG l x).filter p=l.filter p:=by
 have h:(l.take (atE l x)++x::l.drop (atE l x)).filter p=l.filter p:=by
  rw[List.filter_append,List.filter_cons_of_neg (by simp[hx]),<-List.filter_append,List.take_append_drop]
 unfold putG
 split
 ·rfl
 ·split
  ·split
   ·rfl
   ·exact h
  ·exact h
theorem filter_same {R:List Rf} {p:En->Bool} (es other:List En) (hp:∀ e,p e=true->refdG R e.row e.col=true):(sameE R es other).filter p=es.filter p:=by
 have hg:∀ (other l:List En),(other.foldl (zBF R) l).filter p=l.filter p:=by
  intro other
  induction other with
  | nil=>intro l;rfl
  | cons x other ih =>
    intro l
    rw[List.foldl_cons,ih]
    unfold zBF
    split
    ·rfl
    ·rename_i hr
     refine filter_put l ?_
     cases hx:p x with
     | false=>rfl
     | true=>exact absurd (hp x hx) hr
 unfold sameE nearE
 rw[hg,List.filter_filter]
 refine List.filter_congr fun e _=> ?_
 cases he:p e with
 | false=>rfl
 | true=>rw[hp e he];rfl
theorem refd_of {R:List Rf} {r:Rf} {row col:Int} (hr:r∈R) (h:inB r.top r.left r.bottom r.right row col=true):refdG R row col=true:=List.any_eq_true.2 ⟨r,hr,h⟩
theorem rectN_same {R:List Rf} {m:Bool} {t l b r:Int} (es other:List En) (hr:(⟨m,t,l,b,r⟩:Rf)∈R):zCE (sameE R es other) t l b r=zCE es t l b r :=
 filter_same es other fun e h=>refd_of hr h
theorem findN_same {R:List Rf} {m:Bool} {row col:Int} (es other:List En) (hr:(⟨m,row,col,row,col⟩:Rf)∈R):findN (sameE R es other) row col=findN es row col:=by
 unfold findN
 rw[<- List.head?_filter,<-List.head?_filter,filter_same es other fun e h=>refd_of hr ?_]
 simp only[Bool.and_eq_true,beq_iff_eq] at h
 unfold inB
 rw[h.1,h.2]
 simp
theorem wGo_same {ta tb:Tb} (ht:tb.told=ta.told) (hn:tb.hn=ta.hn) (text:Int):∀ (xs:List Nx) (its:List It) (ak:List Ak),(∀ x∈xs,(x.kind=2->findN tb.ents x.row x.col=findN ta.ents x.row x.col)/\(x.kind=3->zCE tb.ents x.top x.left x.bottom x.right=zCE ta.ents x.top x.left x.bottom x.right))->wGo tb text xs its ak=wGo ta text xs its ak
 | [],its,ak,_=>rfl
 | x::xs,its,ak,h=>by
   have h0:=h x List.mem_cons_self
   have ha:∀ l,askG tb text l=askG ta text l:=fun l=>by unfold askG;rw[ht,hn]
   have e:zBv tb text its x=zBv ta text its x:=by
    unfold zBv
    simp only[ha]
    by_cases h2:x.kind=2
    ·rw[h0.1 h2]
     simp[h2]
    by_cases h3:x.kind=3
    ·rw[h0.2 h3]
     simp[h3]
    simp only[if_neg h2,if_neg h3]
   show wGo tb text xs _ _=wGo ta text xs _ _
   rw[e]
   exact wGo_same ht hn text xs _ _ fun y hy=>h y (List.mem_cons_of_mem _ hy)
theorem workG_same {ta tb:Tb} (ht:tb.told=ta.told) (hn:tb.hn=ta.hn) (text:Int) (xs:List Nx) (other:List En) (he:tb.ents=sameE (ofG xs) ta.ents other):workG tb text xs=workG ta text xs:=by
 unfold workG
 cases hc:zBD xs with
 | false=>rfl
 | true =>
   simp only[if_true]
   refine wGo_same ht hn text xs _ _ fun x hx=> ?_
   have hm:=(of_mem xs []).2 x hx
   have hR:ofG xs=xs.foldl zCD []:=if_pos hc
   rw[he,hR]
   refine⟨fun h2=>findN_same (m:=false) _ _ (hm _ (by unfold refN;rw[if_pos h2])),fun h3=>rectN_same (m:=true) _ _ (hm _ (by unfold refN;rw[if_neg (by omega),if_pos h3]))⟩
theorem oth_len (R:List Rf):∀ (other l:List En),(other.foldl (zBF R) l).length<=l.length+other.length
 | [],l=>Nat.le_refl _
 | x::other,l=>by
   have h1:=oth_len R other (zBF R l x)
   have h2:(zBF R l x).length<=l.length+1:=by
    unfold zBF
    split
    ·omega
    ·exact put_len l x
   rw[List.foldl_cons,List.length_cons]
   omega
theorem oth_mem (R:List Rf):∀ (other l:List En),∀ e∈other.foldl (zBF R) l,e∈l∨(e∈other/\mayG e.v=true)
 | [],l=>fun e he=>.inl he
 | x::other,l=>fun e he=>by
   rcases oth_mem R other (zBF R l x) e he with h|h
   ·unfold zBF at h
    split at h
    ·exact .inl h
    ·rcases put_mem h with h|h
     ·exact .inl h
     ·exact .inr ⟨by rw[h.1];exact List.mem_cons_self,by rw[h.1];exact h.2⟩
   ·exact .inr ⟨List.mem_cons_of_mem _ h.1,h.2⟩
theorem below_pre {w:World} {l L:List Obj} {n N:Nat} (h:l <+: L):Below (more w l n).heap.size (more w l n) (more w L N):=by
 obtain⟨r,rfl⟩:=h
 refine⟨rfl,rfl,rfl,by simp,fun k hk=> ?_⟩
 simp only[zAU] at hk
 unfold more
 simp only
 by_cases h1:k<w.heap.size
 ·rw[Array.getElem?_append_left h1,Array.getElem?_append_left h1]
 ·rw[Array.getElem?_append_right (by omega),Array.getElem?_append_right (by omega)]
  simp only[List.getElem?_toArray]
  rw[List.getElem?_append_left (by omega)]
theorem at_block {w w':World} {p:Nat} {l:List Value} (h:AtB w p l) (hb:w'.heap[p]? =w.heap[p]?):AtB w' p l:=fun i u hu=>(World.cell?_of_block (a:=⟨p,i,none⟩) hb).trans (h i u hu)
theorem fresh_block {w w':World} {b:Nat} (h:Fresh w b) (hb:w'.heap[b]? =w.heap[b]?):Fresh w' b :=
 ⟨(World.cell?_of_block (a:=⟨b,0,none⟩) hb).trans h.1,(World.cell?_of_block (a:=⟨b,1,none⟩) hb).trans h.2.1,(World.cell?_of_block (a:=⟨b,3,none⟩) hb).trans h.2.2.1,fun i=>(World.frozen?_of_block (a:=⟨b,i,none⟩) hb).trans (h.2.2.2 i)⟩
theorem new_letter (w:World):Calls Tryz.prog 8 #[] w fun e w'=>∃ p,e=.returned (.pointer (some ⟨p,0,none⟩))/\Fresh w' p/\w.heap.size<=p/\p<w'.heap.size/\Below w.heap.size w w' :=
 (table_New w).mono fun e w' h=>⟨_,h.1,h.2.1,Nat.le_refl _,zA2 h.2.1.1,h.2.2⟩
theorem evnew_letter (tp:Addr) (text:Int) (h1:1<=text) (h2:text<=1024) (w:World):Calls Tryz.prog 7 #[.pointer (some tp),.int .i64 text,.nilIface] w fun e w'=>∃ p,e=.returned (.pointer (some ⟨p,0,none⟩))/\AtB w' p (zAc tp text .nilIface)/\w.heap.size<=p/\p<w'.heap.size/\Below w.heap.size w w' :=
 (eval_New tp text h1 h2 w).mono fun e w' h=>⟨_,h.1,h.2.1,Nat.le_refl _,zA2 (h.2.1 0 _ rfl),h.2.2⟩
theorem evnew_letterH (tp:Addr) (text:Int) (t:TypeId) (a:Addr) (h1:1<=text) (h2:text<=1024) (w:World):Calls Tryz.prog 7 #[.pointer (some tp),.int .i64 text,.iface t (.pointer (some a))] w fun e w'=>∃ p,e=.returned (.pointer (some ⟨p,0,none⟩))/\AtB w' p (zAc tp text (.iface t (.pointer (some a))))/\w.heap.size<=p/\p<w'.heap.size/\Below w.heap.size w w' :=
 (eval_NewH tp text t a h1 h2 w).mono fun e w' h=>⟨_,h.1,h.2.1,Nat.le_refl _,zA2 (h.2.1 0 _ rfl),h.2.2⟩
theorem host_letter (pt:Nat) (cv tx tv:Value) (hn:Bool) (w:World):Calls Tryz.prog 10 #[.pointer (some ⟨pt,0,none⟩),.agg #[cv,tx,.bool hn,tv]] w fun e w'=>∃ hv,hv=(if hn then Value.nilIface else .iface 31 (.pointer (some ⟨pt,0,none⟩)))/\e=.returned hv/\Below w.heap.size w w' :=
 (law_host pt cv tx tv hn w).mono fun e w' h=>⟨_,rfl,h⟩
theorem evnew_any (tp:Addr) (text:Int) (hn:Bool) (t:TypeId) (a:Addr) (hv:Value) (hh:hv=(if hn then Value.nilIface else .iface t (.pointer (some a)))) (h1:1<=text) (h2:text<=1024) (w:World):Calls Tryz.prog 7 #[.pointer (some tp),.int .i64 text,hv] w fun e w'=>∃ p,e=.returned (.pointer (some ⟨p,0,none⟩))/\AtB w' p (zAc tp text hv)/\w.heap.size<=p/\p<w'.heap.size/\Below w.heap.size w w':=by
 subst hh
 cases hn
 ·exact evnew_letterH tp text t a h1 h2 w
 ·exact evnew_letter tp text h1 h2 w
theorem tbG_all {EA:List En} {told:List Td} (h1:∀ e∈EA,mayG e.v=true/\Is64 e.v.num/\e.v.str.size<=1048576) (hl:EA.length<=1048576) (ht:∀ e∈told,Is64 e.v.num) (pt c tc tp:Nat) (A ta:Option Addr) (hn hb:Bool):TbG False 1048576 ⟨pt,A,c,EA,hn,ta,tc,told,tp,hb⟩ :=
 ⟨fun e he=>⟨⟨(h1 e he).1,fun h=>h.elim,may_in (h1 e he).1 (h1 e he).2.1⟩,(h1 e he).2.2⟩,hl,ht⟩
structure Sm (w wr:World) (BA BO pa pb:Nat) (A':Option Addr) (c':Nat) (EA:List En) (hn:Bool) (ta:Option Addr) (tc:Nat) (told:List Td) (f:Value) (wl:List Value) (R:List Rf) (Ar:Option Addr) (v:Value) (L:List En):Prop where
 kept:Below w.heap.size w wr
 srcA:∀ tp,SrcG wr BA ⟨pa,A',c',EA,hn,ta,tc,told,tp,hn⟩ (.slice none 0 0) 0 []
 atB:AtB wr pb [v,.slice none 0 0,.bool hn,.slice ta told.length tc]
 frB:∀ i,wr.frozen? ⟨pb,i,none⟩=false
 own:wr.ownsRow BO 57 7 v L.length (zBi En.cells L)
 refs:ReadsN wr BO pb 5 Ar R.length (zBi Rf.cells R)
 bf:AtB wr w.heap.size [f]
 bw:AtB wr (w.heap.size+1) wl
 l0:w.heap.size+2<=pa
 l2:BA<=pb
 l3:pb<BO
 l4:BO<=wr.heap.size
theorem SrcG.keepN {w w':World} {B:Nat} {tb:Tb} (h:SrcG w B tb (.slice none 0 0) 0 []) (hs:w.heap.size<=w'.heap.size) (hk:∀ b,b<B->w'.heap[b]? =w.heap[b]?):SrcG w' B tb (.slice none 0 0) 0 [] :=
 ⟨h.lt,Nat.le_trans h.le hs,at_block h.at0 (hk _ h.lt),(World.frozen?_of_block (a:=⟨tb.pt,1,none⟩) (hk _ h.lt)).trans h.fr,h.en.keep fun b h1 _=>hk b h1,h.tl.keep fun b h1 _=>hk b h1,World.ownsRow_nil _ _ _ _⟩
section
variable {w wr:World} {BA BO pa pb:Nat} {A':Option Addr} {c':Nat} {EA:List En} {hn:Bool} {ta:Option Addr} {tc:Nat} {told:List Td} {f:Value} {wl:List Value} {R:List Rf} {Ar:Option Addr} {v:Value} {L:List En}
theorem Sm.lt (h:Sm w wr BA BO pa pb A' c' EA hn ta tc told f wl R Ar v L):pa<BA:=(h.srcA 0).lt
theorem Sm.below (h:Sm w wr BA BO pa pb A' c' EA hn ta tc told f wl R Ar v L) {W:World} (hb:Below wr.heap.size wr W):Sm w W BA BO pa pb A' c' EA hn ta tc told f wl R Ar v L:=by
 have h3:=h.l3
 have h4:=h.l4
 exact⟨h.kept.trans (hb.mono h.kept.size),fun tp=>(h.srcA tp).below hb,h.atB.below hb,fun i=>(World.frozen?_of_block (a:=⟨pb,i,none⟩) (hb.block pb (by omega))).trans (h.frB i),zA7 h.own hb,h.refs.keep fun b h1 _=>hb.block b (by omega),h.bf.below hb,h.bw.below hb,h.l0,h.l2,h.l3,Nat.le_trans h.l4 hb.size⟩
theorem Sm.storeP (kept:Below w.heap.size w wr) (srcA:∀ tp,SrcG wr BA ⟨pa,A',c',EA,hn,ta,tc,told,tp,hn⟩ (.slice none 0 0) 0 []) (atB:AtB wr pb [v,.slice none 0 0,.bool hn,.slice ta told.length tc]) (frB:∀ i,wr.frozen? ⟨pb,i,none⟩=false) (refs:ReadsN wr BO pb 5 Ar R.length (zBi Rf.cells R)) (bf:AtB wr w.heap.size [f]) (bw:AtB wr (w.heap.size+1) wl)
  (h0:w.heap.size+2<=pa) (h2:BA<=pb) (h3:pb<BO) (h4:BO<=wr.heap.size) {w1:World} (hb:Below BO wr w1) {v':Value} {L':List En} (hown:w1.ownsRow BO 57 7 v' L'.length (zBi En.cells L')) :
  Sm w (w1.setCell ⟨pb,0,none⟩ v') BA BO pa pb A' c' EA hn ta tc told f wl R Ar v' L':=by
 have h1:pa<BA:=(srcA 0).lt
 have hs:=hb.size
 have hk:∀ b,b<BO->b≠pb->(w1.setCell ⟨pb,0,none⟩ v').heap[b]? =wr.heap[b]? :=fun b k1 k2=>(heap_setCell_other w1 ⟨pb,0,none⟩ b v' k2).trans (hb.block b k1)
 have hq:∀ i u,[v,.slice none 0 0,.bool hn,.slice ta told.length tc][i]? =some u->w1.cell? ⟨pb,i,none⟩=some u:=fun i u hu=>(World.cell?_of_block (a:=⟨pb,i,none⟩) (hb.block pb h3)).trans (atB i u hu)
 refine⟨kept.trans ((hb.mono (by omega)).setCell (by show w.heap.size<=pb;omega) _),fun tp=>(srcA tp).keepN (by simpa using hs) fun b k=>hk b (by omega) (by omega),fun i u hu=> ?_,fun i=>(World.frozen?_setCell _ _ _ _).trans ((World.frozen?_of_block (a:=⟨pb,i,none⟩) (hb.block pb h3)).trans (frB i)),ownsRow_setCell_below hown (by show pb<BO;omega) _,refs.keep fun b k1 k2=>hk b k1 k2,at_block bf (hk _ (by omega) (by omega)),at_block bw (hk _ (by omega) (by omega)),h0,h2,h3,by simpa using Nat.le_trans h4 hs⟩
 match i,hu with
 | 0,hu=>cases hu;exact World.cell?_setCell_same _ _ _ (hq 0 _ rfl)
 | 1,hu=>exact(World.cell?_setCell_other _ _ _ _ (by simp)).trans (hq 1 _ hu)
 | 2,hu=>exact(World.cell?_setCell_other _ _ _ _ (by simp)).trans (hq 2 _ hu)
 | 3,hu=>exact(World.cell?_setCell_other _ _ _ _ (by simp)).trans (hq 3 _ hu)
 | _+4,hu=>cases hu
theorem Sm.store (h:Sm w wr BA BO pa pb A' c' EA hn ta tc told f wl R Ar v L) {w1:World} (hb:Below BO wr w1) {v':Value} {L':List En} (hown:w1.ownsRow BO 57 7 v' L'.length (zBi En.cells L')) :
  Sm w (w1.setCell ⟨pb,0,none⟩ v') BA BO pa pb A' c' EA hn ta tc told f wl R Ar v' L' :=
 Sm.storeP h.kept h.srcA h.atB h.frB h.refs h.bf h.bw h.l0 h.l2 h.l3 h.l4 hb hown
theorem Sm.reads (h:Sm w wr BA BO pa pb A' c' EA hn ta tc told f wl R Ar v L):Reads wr BO 5 Ar R.length (zBi Rf.cells R):=⟨h.refs.1,fun h0=>by
 obtain⟨b,off,e,k1,-,k3⟩:=h.refs.2 h0
 exact⟨b,off,e,k1,k3⟩⟩
theorem Sm.srcB (h:Sm w wr BA BO pa pb A' c' EA hn ta tc told f wl R Ar v L):∃ AB cB,v=.slice AB L.length cB/\(∀ tp,SrcG wr wr.heap.size ⟨pb,AB,cB,L,hn,ta,tc,told,tp,hn⟩ (.slice none 0 0) 0 [])/\(0<L.length->∀ b off,AB=some ⟨b,off,none⟩->BO<=b/\b<wr.heap.size):=by
 have h1:=h.lt
 have h2:=h.l2
 have h3:=h.l3
 have h4:=h.l4
 have hO:=h.own
 have hA:=h.atB
 obtain⟨AB,cB,rfl,-,-⟩:=zAk hO
 have hf:0<L.length->∃ g,AB=some ⟨g,0,none⟩/\BO<=g/\g<wr.heap.size/\∀ i u,(zBi En.cells L)[i]? =some u->wr.cell? ⟨g,i,none⟩=some u:=fun k=>by
  obtain⟨g,c2,e1,-,-,k1,k2,k3,-⟩:=zAf hO k
  cases e1
  exact⟨g,rfl,k1,k2,k3⟩
 refine⟨AB,cB,rfl,fun tp=>⟨by show pb<_;omega,Nat.le_refl _,hA,h.frB 1,⟨zAD En.cells 7 En.cells_length L,fun k=> ?_⟩,⟨(h.srcA 0).tl.1,fun k=> ?_⟩,World.ownsRow_nil _ _ _ _⟩,fun k b off e=> ?_⟩
 ·obtain⟨g,rfl,k1,k2,k3⟩:=hf k
  exact⟨g,0,rfl,k2,by show g≠pb;omega,fun i u hu=>by rw[Nat.zero_add];exact k3 i u hu⟩
 ·obtain⟨b,off,e,k1,k2,k3⟩:=(h.srcA 0).tl.2 k
  exact⟨b,off,e,by omega,by show b≠pb;omega,k3⟩
 ·obtain⟨g,rfl,k1,k2,k3⟩:=hf k
  cases e
  exact⟨k1,k2⟩
end
theorem SrcG.far {w w':World} {B:Nat} {tb:Tb} {pt tp:Nat} (h:SrcG w B tb (.slice none 0 0) 0 []) (hk:zBn pt tp none w w') (h1:tb.pt≠pt) (h2:tb.pt≠tp) (hA:0<tb.ents.length->∀ b off,tb.A=some ⟨b,off,none⟩->b≠pt/\b≠tp) (ht:0<tb.told.length->∀ b off,tb.ta=some ⟨b,off,none⟩->b≠pt/\b≠tp):SrcG w' B tb (.slice none 0 0) 0 []:=by
 have hb:∀ b,b<B->b≠pt->b≠tp->w'.heap[b]? =w.heap[b]? :=fun b k1 k2 k3=>hk.2.2.2.2 b (Nat.lt_of_lt_of_le k1 h.le) k2 k3 (by simp)
 refine⟨h.lt,Nat.le_trans h.le hk.2.2.2.1,at_block h.at0 (hb _ h.lt h1 h2),(World.frozen?_of_block (a:=⟨tb.pt,1,none⟩) (hb _ h.lt h1 h2)).trans h.fr,⟨h.en.1,fun k=> ?_⟩,⟨h.tl.1,fun k=> ?_⟩,World.ownsRow_nil _ _ _ _⟩
 ·obtain⟨b,off,e,k1,k2,k3⟩:=h.en.2 k
  have h3:=hA k b off e
  exact⟨b,off,e,k1,k2,fun j u hu=>(World.cell?_of_block (a:=⟨b,off+j,none⟩) (hb b k1 h3.1 h3.2)).trans (k3 j u hu)⟩
 ·obtain⟨b,off,e,k1,k2,k3⟩:=h.tl.2 k
  have h3:=ht k b off e
  exact⟨b,off,e,k1,k2,fun j u hu=>(World.cell?_of_block (a:=⟨b,off+j,none⟩) (hb b k1 h3.1 h3.2)).trans (k3 j u hu)⟩
theorem near_take (R:List Rf) (l:List En) (j:Nat) (e:En) (h:l[j]? =some e):nearE R (l.take (j+1))=if refdG R e.row e.col=true then nearE R (l.take j)++[e] else nearE R (l.take j):=by
 unfold nearE
 rw[zBc h,List.filter_append]
 by_cases hr:refdG R e.row e.col=true
 ·rw[if_pos hr];simp[hr]
 ·rw[if_neg hr];simp[hr]
theorem oth_take (R:List Rf) (l0 l:List En) (j:Nat) (e:En) (h:l[j]? =some e):(l.take (j+1)).foldl (zBF R) l0=zBF R ((l.take j).foldl (zBF R) l0) e:=by
 rw[zBc h,List.foldl_append]
 rfl
theorem near_len (R:List Rf) (l:List En):(nearE R l).length<=l.length:=List.length_filter_le _ _
open Go.Lib renaming hid->zh
set_option maxHeartbeats 16000000 in
theorem evalSame {w:World} {xs:List Nx} {Af Ac ta Ao:Option Addr} {nf nc no:Nat} {es other:List En} {told:List Td} {tx:Int} (h:LawIn12 w xs Af nf es Ac nc told ta tx) (cf cc tc co:Nat) (hn:Bool) (ho:Reads w w.heap.size 7 Ao no (zBi En.cells other)) (hno:nc+no<=1048576) (h64o:∀ e∈other,Is64 e.v.num) (hszo:∀ e∈other,e.v.str.size<=1048576) :
  Rt 5 #[.agg #[.slice Af nf cf],.agg #[.slice Ac nc cc,.int .i64 tx,.bool hn,.slice ta told.length tc],.slice Ao no co] w (.bool true):=by
 have HL:=zh h
 have hlo:other.length=no:=by
  have:=ho.1
  rw[zAD En.cells 7 En.cells_length] at this
  omega
 have HLO:=zh hlo
 have hpk:=pick_bd tx 1024 (by omega)
 obtain⟨P,hP⟩:∃ P,pickG tx 1024=P:=⟨_,rfl⟩
 rw[hP] at hpk
 have hwp:IntKind.i64.wrap (1+P)=1+P:=by rw[IntKind.wrap_i64];omega
 have HO:=zh ho
 have H64:=zh (And.intro h64o hszo)
 have hle:(tabE es).length<=nc:=by
  have h1:=tabE_len es es.length
  rw[List.take_length] at h1
  have h2:es.length=nc:=by
   have:=h.he.1
   rw[zAD En.cells 7 En.cells_length] at this
   omega
  omega
 obtain⟨i0,hi,hz0,hz1,hz2⟩:=info_parts info_En
 clear h ho h64o hszo hlo
 go_enter Tryz.func5,Tryz.ntmps5
 go_upto_region 2 with (go_at_call 6;refine(law_tableX es told Ac ta nc cc tc (.int .i64 tx) hn _ ((HL.out.he.below bel).lift (by go_size)) HL.out.nc HL.out.e64 ((HL.out.ht.below bel).lift (by go_size))).mono ?_;rintro e w1 ⟨A1,c1,rfl,hb,-,hS⟩;have HSA:=zh hS;obtain⟨l1,m1,rfl⟩:=zA0 hb;clear hb hS)
 go_upto_region 3 with (go_at_call 6;refine(law_tableX es told Ac ta nc cc tc (.int .i64 tx) hn _ ((HL.out.he.below bel).lift (by go_size)) HL.out.nc HL.out.e64 ((HL.out.ht.below bel).lift (by go_size))).mono ?_;rintro e w1 ⟨A2,c2,rfl,hb,hfz,hS⟩;have HSB:=zh hS;have HFZ:=zh hfz;obtain⟨l2,m2,rfl⟩:=zA0 hb;clear hb hS hfz)
 go_upto_region 4 with (go_at_call 16;refine(ref05_Of xs Af nf cf w.heap.size _ (HL.out.hf.below bel) (by have:=HL.out.nf;omega) (fun x hx=>by have:=HL.out.nm x hx;omega) HL.out.x64).mono ?_;rintro e w1 ⟨v,rfl,hb,hO,hRl⟩;obtain⟨Ar,cr,rfl,-,-⟩:=zAk hO;have HOR:=zh hO;have HRL:=zh hRl;obtain⟨l3,m3,rfl⟩:=zA0 hb;clear hb hO hRl)
 obtain⟨R,hR⟩:∃ R,ofG xs=R:=⟨_,rfl⟩
 rw[hR] at HOR HRL ⊢
 have HRG:=zh hR
 obtain⟨EA,hEA⟩:∃ EA,tabE es=EA:=⟨_,rfl⟩
 rw[hEA] at HSA HSB hle
 have HEA:=zh hEA
 obtain⟨pa,hpa⟩:∃ pa,w.heap.size+1+1+1=pa:=⟨_,rfl⟩
 obtain⟨BA,hBA⟩:∃ BA,w.heap.size+1+1+l1.length=BA:=⟨_,rfl⟩
 obtain⟨pb,hpb⟩:∃ pb,w.heap.size+1+1+l1.length+1=pb:=⟨_,rfl⟩
 obtain⟨W,hWe⟩:∃ W,more ((w.alloc (.cells #[.slice Af nf cf] 24)).alloc (.cells #[.slice Ac nc cc,.int .i64 tx,.bool hn,.slice ta told.length tc] 30)) (l1++(l2++l3)) m3=W:=⟨_,rfl⟩
 have hKW:Below w.heap.size w W:=by rw[<- hWe];exact bel
 have hsW:W.heap.size=w.heap.size+1+1+(l1++(l2++l3)).length:=by rw[<- hWe];simp
 have hSA:∀ tp,SrcG W BA ⟨pa,A1,c1,EA,hn,ta,tc,told,tp,hn⟩ (.slice none 0 0) 0 []:=fun tp=>by
  have h:=(HSA.out tp).below (below_pre (L:=l1++(l2++l3)) (N:=m3) ⟨l2++l3,by simp⟩)
  simp only[zAU,alz] at h
  rw[hWe,hpa,hBA] at h
  exact h
 have hSB:SrcG W (w.heap.size+1+1+(l1++l2).length) ⟨pb,A2,c2,EA,hn,ta,tc,told,0,hn⟩ (.slice none 0 0) 0 []:=by
  have h:=HSB.out 0
  simp only[zAO] at h
  have h:=h.below (below_pre (L:=l1++(l2++l3)) (N:=m3) ⟨l3,by simp⟩)
  simp only[zAU,alz] at h
  rw[hWe,hpb] at h
  exact h
 have hFZ:∀ i,W.frozen? ⟨pb,i,none⟩=false:=fun i=>by
  have h:=HFZ.out i
  simp only[zAO,zAU,alz] at h
  rw[hpb] at h
  have hb:=(below_pre (w:=(w.alloc (.cells #[.slice Af nf cf] 24)).alloc (.cells #[.slice Ac nc cc,.int .i64 tx,.bool hn,.slice ta told.length tc] 30)) (l:=l1++l2) (n:=m2) (L:=l1++(l2++l3)) (N:=m3) ⟨l3,by simp⟩).block pb (by have:=hSB.lt;simp at this ⊢;omega)
  rw[hWe] at hb
  exact(World.frozen?_of_block (a:=⟨pb,i,none⟩) hb).trans h
 have hRF:ReadsN W W.heap.size pb 5 Ar R.length (zBi Rf.cells R):=by
  have h:=HOR.out
  simp only[zAO,zAU,alz,List.append_assoc] at h
  rw[hWe] at h
  refine⟨zAD Rf.cells 5 Rf.cells_length R,fun h0=> ?_⟩
  obtain⟨g,cc',e1,-,-,k1,k2,k3,-⟩:=zAf h h0
  cases e1
  have:=hSB.lt
  exact⟨g,0,rfl,k2,by simp at this k1;omega,fun i u hu=>by rw[Nat.zero_add];exact k3 i u hu⟩
 have hX1:AtB ((w.alloc (.cells #[.slice Af nf cf] 24)).alloc (.cells #[.slice Ac nc cc,.int .i64 tx,.bool hn,.slice ta told.length tc] 30)) w.heap.size [.slice Af nf cf]:=AtB.zAv (AtB.new rfl) _
 have hX2:AtB ((w.alloc (.cells #[.slice Af nf cf] 24)).alloc (.cells #[.slice Ac nc cc,.int .i64 tx,.bool hn,.slice ta told.length tc] 30)) (w.heap.size+1) [.slice Ac nc cc,.int .i64 tx,.bool hn,.slice ta told.length tc]:=AtB.new (by rw[alz])
 have hbf:AtB W w.heap.size [.slice Af nf cf]:=by
  have h:=hX1.below (show Below ((w.alloc (.cells #[.slice Af nf cf] 24)).alloc (.cells #[.slice Ac nc cc,.int .i64 tx,.bool hn,.slice ta told.length tc] 30)).heap.size ((w.alloc (.cells #[.slice Af nf cf] 24)).alloc (.cells #[.slice Ac nc cc,.int .i64 tx,.bool hn,.slice ta told.length tc] 30)) (more ((w.alloc (.cells #[.slice Af nf cf] 24)).alloc (.cells #[.slice Ac nc cc,.int .i64 tx,.bool hn,.slice ta told.length tc] 30)) (l1++(l2++l3)) m3) from bel)
  rw[hWe] at h
  exact h
 have hbw:AtB W (w.heap.size+1) [.slice Ac nc cc,.int .i64 tx,.bool hn,.slice ta told.length tc]:=by
  have h:=hX2.below (show Below ((w.alloc (.cells #[.slice Af nf cf] 24)).alloc (.cells #[.slice Ac nc cc,.int .i64 tx,.bool hn,.slice ta told.length tc] 30)).heap.size ((w.alloc (.cells #[.slice Af nf cf] 24)).alloc (.cells #[.slice Ac nc cc,.int .i64 tx,.bool hn,.slice ta told.length tc] 30)) (more ((w.alloc (.cells #[.slice Af nf cf] 24)).alloc (.cells #[.slice Ac nc cc,.int .i64 tx,.bool hn,.slice ta told.length tc] 30)) (l1++(l2++l3)) m3) from bel)
  rw[hWe] at h
  exact h
 have hltA:pa<BA:=(hSA 0).lt
 have hltB:pb<w.heap.size+1+1+(l1++l2).length:=hSB.lt
 have hla:(l1++(l2++l3)).length=l1.length+l2.length+l3.length:=by simp only[List.length_append];omega
 have hlb:(l1++l2).length=l1.length+l2.length:=by simp only[List.length_append]
 have hatB:AtB W pb [.slice A2 EA.length c2,.slice none 0 0,.bool hn,.slice ta told.length tc]:=hSB.at0
 have HS0:=zh (Sm.storeP (v':=.slice none 0 0) (L':=[]) hKW hSA hatB hFZ hRF hbf hbw (by omega) (by omega) (by omega) (Nat.le_refl _) (Below.refl _ _) (World.ownsRow_nil _ _ _ _))
 have q0:W.cell? ⟨pb,0,none⟩=some (.slice A2 EA.length c2):=hSB.at0 0 _ rfl
 have qf:=hFZ 0
 have lq:=zA2 q0
 rw[hWe,hpa,hpb]
 have hRL:=HRL.out
 clear hWe hSA hSB hFZ hRF hbf hbw hX1 hX2 hatB HSA HSB HFZ HOR hR hEA hpa hpb hBA hsW hKW hltA hltB HRL hla hlb
 go_wp2
 go_loopw [10] (fun o7 wr=>∃ (j:Nat) (v:Value),j<=EA.length/\o7=.int .i64 j/\Sm w wr BA W.heap.size pa pb A1 c1 EA hn ta tc told (.slice Af nf cf) [.slice Ac nc cc,.int .i64 tx,.bool hn,.slice ta told.length tc] R Ar v (nearE R (EA.take j))) (fun t _=>EA.length-(intOf t).toNat)
 case atStart=>exact⟨0,_,Nat.zero_le _,rfl,HS0.out⟩
 case round =>
  obtain⟨j,v,hj,rfl,hM⟩:=hrel
  have HM:=zh hM
  obtain⟨Av,cv,rfl,-,-⟩:=zAk hM.own
  have a0:wr.cell? ⟨pa,0,none⟩=some (.slice A1 EA.length c1):=(hM.srcA 0).at0 0 _ rfl
  have b0:wr.cell? ⟨pb,0,none⟩=some (.slice Av (nearE R (EA.take j)).length cv):=hM.atB 0 _ rfl
  have bfz:=hM.frB 0
  have la:=zA2 a0
  have lb:=zA2 b0
  have hl3:=hM.l3
  have hl4:=hM.l4
  have hnl:=near_len R (EA.take j)
  rw[List.length_take] at hnl
  have HNE:=zh (show some pb≠(Value.slice Av (nearE R (EA.take j)).length cv).ownBlock from fun e=>by have:=(hM.own.lt _ e.symm).1;omega)
  by_cases hlt:j<EA.length
  ·obtain⟨e,he⟩:∃ e,EA[j]? =some e:=⟨_,List.getElem?_eq_getElem hlt⟩
   obtain⟨bk,off,eA,hk1,hk2,hc⟩:=(hM.srcA 0).en.2 (show 0<EA.length by omega)
   have eA:A1=some ⟨bk,off,none⟩:=eA
   subst eA
   have hcell:∀ i u,e.cells[i]? =some u->wr.cell? ⟨bk,off+(j*7+i),none⟩=some u:=fun i u hu=>hc _ u (zA9 En.cells 7 En.cells_length EA j e he i u hu)
   have e0:=hcell 0 _ rfl
   have e1:=hcell 1 _ rfl
   have e2:=hcell 2 _ rfl
   have e3:=hcell 3 _ rfl
   have e4:=hcell 4 _ rfl
   have e5:=hcell 5 _ rfl
   have e6:=hcell 6 _ rfl
   simp only[<- Nat.add_assoc,Nat.add_zero] at e0 e1 e2 e3 e4 e5 e6
   have le0:=zA2 e0
   have hi1:(0:Int)<=(j:Int):=by omega
   have hi2:(j:Int)<(EA.length:Int):=by omega
   have HNT:=zh (near_take R EA j e he)
   have HREF:=zh (fun (X:World) (hb:Below wr.heap.size wr X)=>law_referred R e.row e.col Ar R.length cr W.heap.size X (HM.out.below hb).reads (by have:=HL.out.nf;omega))
   obtain⟨q,hq⟩:∃ q,refdG R e.row e.col=q:=⟨_,rfl⟩
   rw[hq] at HNT
   have HQ:=zh hq
   clear hcell hc he hM hq hk1 hk2
   cases q
   ·go_wp2_with(go_at_call 17;refine(HREF.out _ bel).mono ?_;rw[HQ.out];rintro e1 w1 ⟨rfl,hb⟩;obtain⟨l7,m7,rfl⟩:=zA0 hb;clear hb)
    go_roundw
    case rel=>exact⟨j+1,_,by omega,by go_num,by rw[HNT.out];exact HM.out.below bel⟩
    case measure=>simp[intOf];omega
   ·go_wp2_with(go_at_call 17;refine(HREF.out _ bel).mono ?_;rw[HQ.out];rintro e1 w1 ⟨rfl,hb⟩;obtain⟨l7,m7,rfl⟩:=zA0 hb;clear hb)
    go_region_law ((refine step_append_lies _ (by rfl) _ _ _ (by rfl) W.heap.size 57 i0 _ 7 64 Tryz.underlying25 hi hz0 hz1 hz2 (by rfl) (by decide) (.slice Av (nearE R (EA.take j)).length cv) (nearE R (EA.take j)).length (zBi En.cells (nearE R (EA.take j))) (by rfl) (zA7 HM.out.own bel) _ 1 1 (e.cells) (by rfl) (by rfl) (by exact fun i u hu=>zAJ (by simp) i u hu) (En.cells_one _) (by decide) (by simp only[maxLen];omega) (by omega) (by have:=HM.out.l4;simp;omega) _ rfl ?_;intro g cap w1 hown1 hgrow hat hltw;have q0:w1.cell? ⟨pb,0,none⟩=some (.slice Av (nearE R (EA.take j)).length cv):=(hgrow.cell_far _ (by go_size) HNE.out).trans (by go_simp);have qf:w1.frozen? ⟨pb,0,none⟩=false:=(hgrow.frozen_far _ (by go_size) HNE.out).trans (by go_simp)))
    all_goals
     go_wp2_with fail
     have HST:=zh (HM.out.store (Below.grown (show Below W.heap.size wr _ from Below.mono (B:=wr.heap.size) bel hl4) hgrow (by first|omega|(simp;omega)) (fun k hk=>(HM.out.own.lt k hk).1)) (L':=nearE R (EA.take j)++[e]) (by rw[zAC,List.length_append];simpa [zBi] using hown1))
     go_roundw
     case rel=>exact⟨j+1,_,by omega,by go_num,by rw[HNT.out];simpa using HST.out⟩
     case measure=>simp[intOf];omega
  ·obtain rfl:j=EA.length:=by omega
   have HML:=zh (show Sm w wr BA W.heap.size pa pb A1 c1 EA hn ta tc told (.slice Af nf cf) [.slice Ac nc cc,.int .i64 tx,.bool hn,.slice ta told.length tc] R Ar (.slice Av (nearE R EA).length cv) (nearE R EA) from by have h:=HM.out;rw[List.take_length] at h;exact h)
   have hnl2:=near_len R EA
   obtain⟨wo,rfl⟩:∃ wo,wo=wr:=⟨_,rfl⟩
   clear hM HM b0 bfz HNE hnl q0 qf lq la lb
   go_wp2
   go_loopw [12] (fun nU wr=>∃ (j:Nat) (v:Value),j<=no/\nU=.int .i64 j/\Sm w wr BA W.heap.size pa pb A1 c1 EA hn ta tc told (.slice Af nf cf) [.slice Ac nc cc,.int .i64 tx,.bool hn,.slice ta told.length tc] R Ar v ((other.take j).foldl (zBF R) (nearE R EA))) (fun t _=>no-(intOf t).toNat)
   case atStart=>exact⟨0,_,Nat.zero_le _,rfl,HML.out⟩
   case round =>
    obtain⟨j,v,hj,rfl,hM⟩:=hrel
    have HM:=zh hM
    obtain⟨Av,cv,rfl,-,-⟩:=zAk hM.own
    have b0:=hM.atB 0 _ rfl
    have bfz:=hM.frB 0
    have lb:=zA2 b0
    have hl3:=hM.l3
    have hl4:=hM.l4
    have hol:=oth_len R (other.take j) (nearE R EA)
    rw[List.length_take] at hol
    by_cases hlt:j<no
    ·obtain⟨e,he⟩:∃ e,other[j]? =some e:=⟨_,List.getElem?_eq_getElem (show j<other.length by have:=HLO.out;omega)⟩
     obtain⟨bk,off,rfl,_,hc⟩:=HO.out.2 (by omega)
     have hcell:∀ i u,e.cells[i]? =some u->wr.cell? ⟨bk,off+(j*7+i),none⟩=some u:=fun i u hu=>cell_below (hc _ u (zA9 En.cells 7 En.cells_length other j e he i u hu)) hM.kept
     have e0:=hcell 0 _ rfl
     have e1:=hcell 1 _ rfl
     have e2:=hcell 2 _ rfl
     have e3:=hcell 3 _ rfl
     have e4:=hcell 4 _ rfl
     have e5:=hcell 5 _ rfl
     have e6:=hcell 6 _ rfl
     simp only[<- Nat.add_assoc,Nat.add_zero] at e0 e1 e2 e3 e4 e5 e6
     have le0:=zA2 e0
     have hi1:(0:Int)<=(j:Int):=by omega
     have hi2:(j:Int)<(no:Int):=by omega
     have HNT:=zh (oth_take R (nearE R EA) other j e he)
     have HREF:=zh (fun (X:World) (hb:Below wr.heap.size wr X)=>law_referred R e.row e.col Ar R.length cr W.heap.size X (HM.out.below hb).reads (by have:=HL.out.nf;omega))
     have HE64:=zh (H64.out.1 e (List.mem_of_getElem? he))
     obtain⟨L,hL⟩:∃ L,(other.take j).foldl (zBF R) (nearE R EA)=L:=⟨_,rfl⟩
     rw[hL] at HNT HM hol b0
     obtain⟨q,hq⟩:∃ q,refdG R e.row e.col=q:=⟨_,rfl⟩
     have HOS:=zh (show zBF R L e=if q=true then L else putG L e from by unfold zBF;rw[hq])
     have HQ:=zh hq
     clear hcell hc he hM hq hL
     cases q
     ·go_wp2_with(go_at_call 17;refine(HREF.out _ bel).mono ?_;rw[HQ.out];rintro e1 w1 ⟨rfl,hb⟩;obtain⟨l7,m7,rfl⟩:=zA0 hb;clear hb)
      go_region_law (first|(go_simp;go_at_call 18;refine(law_put L e HE64.out (.slice Av L.length cv) W.heap.size _ (zA7 HM.out.own bel) (by omega) (by simp;omega)).mono ?_;rintro e1 w1 ⟨v1,rfl,hb1,hO1⟩;obtain⟨A9,c9,rfl,-,-⟩:=zAk hO1;have p0:w1.cell? ⟨pb,0,none⟩=some (.slice Av L.length cv):=cell_below (by go_simp) hb1;have pf:w1.frozen? ⟨pb,0,none⟩=false:=(World.frozen?_of_block (a:=⟨pb,0,none⟩) (hb1.block pb (by simp;omega))).trans (by go_simp);have HB1:=zh hb1;have HO1:=zh hO1;clear hb1 hO1))
      all_goals
       go_wp2_with fail
       have HST:=zh (HM.out.store (Below.trans (show Below W.heap.size wr _ from Below.mono (B:=wr.heap.size) bel hl4) (HB1.out.mono (by simp;omega))) (L':=putG L e) HO1.out)
       go_roundw
       case rel=>exact⟨j+1,_,by omega,by go_num,by rw[HNT.out,HOS.out];simpa using HST.out⟩
       case measure=>simp[intOf];omega
     ·go_wp2_with(go_at_call 17;refine(HREF.out _ bel).mono ?_;rw[HQ.out];rintro e1 w1 ⟨rfl,hb⟩;obtain⟨l7,m7,rfl⟩:=zA0 hb;clear hb)
      go_roundw
      case rel=>exact⟨j+1,_,by omega,by go_num,by rw[HNT.out,HOS.out];exact HM.out.below bel⟩
      case measure=>simp[intOf];omega
    ·obtain rfl:j=no:=by omega
     clear hM
     have hst:other.take other.length=other:=List.take_length
     have hM2:Sm w wr BA W.heap.size pa pb A1 c1 EA hn ta tc told (.slice Af nf cf) [.slice Ac nc cc,.int .i64 tx,.bool hn,.slice ta told.length tc] R Ar (.slice Av (sameE R EA other).length cv) (sameE R EA other):=by
      have h:=HM.out
      rw[<- HLO.out,hst] at h
      exact h
     obtain⟨L,hL⟩:∃ L,sameE R EA other=L:=⟨_,rfl⟩
     rw[hL] at hM2
     have hLn:L.length<=1048576:=by
      have h1:=oth_len R other (nearE R EA)
      have h2:=near_len R EA
      have h3:(sameE R EA other).length<=(nearE R EA).length+other.length:=h1
      rw[hL] at h3
      have:=HLO.out
      omega
     have hEe:∀ e∈EA,mayG e.v=true/\Is64 e.v.num/\e.v.str.size<=1048576:=fun e he=>by
      rw[<- HEA.out] at he
      obtain⟨h1,h2⟩:=tabE_mem es e he
      exact⟨h2,HL.out.e64 e h1,HL.out.esz e h1⟩
     have hLe:∀ e∈L,mayG e.v=true/\Is64 e.v.num/\e.v.str.size<=1048576:=fun e he=>by
      rw[<- hL] at he
      rcases oth_mem R other (nearE R EA) e he with h|h
      ·exact hEe e ((List.mem_filter.1 h).1)
      ·exact⟨h.2,H64.out.1 e h.1,H64.out.2 e h.1⟩
     obtain⟨AB,cB,eB,hSB,hABf⟩:=hM2.srcB
     cases eB
     have hSA:=hM2.srcA
     have HS:=zh (And.intro hSA (And.intro hSB hABf))
     have HLL:=zh hL
     have HIN:=zh (And.intro hEe (And.intro hLe hLn))
     have HKW:=zh hM2.kept
     have t1:wr.cell? ⟨w.heap.size+1,1,none⟩=some (.int .i64 tx):=hM2.bw 1 _ rfl
     have t0:wr.cell? ⟨w.heap.size+1,0,none⟩=some (.slice Ac nc cc):=hM2.bw 0 _ rfl
     have t2:wr.cell? ⟨w.heap.size+1,2,none⟩=some (.bool hn):=hM2.bw 2 _ rfl
     have t3:wr.cell? ⟨w.heap.size+1,3,none⟩=some (.slice ta told.length tc):=hM2.bw 3 _ rfl
     have t4:wr.cell? ⟨w.heap.size,0,none⟩=some (.slice Af nf cf):=hM2.bf 0 _ rfl
     have lt1:=zA2 t1
     have lt4:=zA2 t4
     have a0:wr.cell? ⟨pa,0,none⟩=some (.slice A1 EA.length c1):=(hSA 0).at0 0 _ rfl
     have b0':wr.cell? ⟨pb,0,none⟩=some (.slice Av L.length cv):=hM2.atB 0 _ rfl
     have la:=zA2 a0
     have lb':=zA2 b0'
     have hk0:=hM2.l0
     have hk2:=hM2.l2
     have hk3:=hM2.l3
     have hk1:pa<BA:=(hSA 0).lt
     clear hM2 hSA hSB hABf hL hLn hEe hLe hst HM b0 bfz lb hol
     go_wp2_with(go_at_call 9;refine(law_pick tx 1024 HL.out.tx (by omega) _).mono ?_;rintro e w1 ⟨rfl,rfl⟩)
     go_cut [15] from 96 to 101 (fun sx wx=>∃ tp pe:Nat,sx=.pointer (some ⟨pe,0,none⟩)/\Fresh wx tp/\AtB wx pe (zAc ⟨tp,0,none⟩ (1+P) (if hn then Value.nilIface else .iface 31 (.pointer (some ⟨pa,0,none⟩))))/\wr.heap.size<=tp/\tp<pe/\pe<wx.heap.size/\Below wr.heap.size wr wx)
     case first =>
      go_region_law (first
       | (go_simp;go_at_call 8;refine(new_letter _).mono ?_;rintro e w1 ⟨tp1,rfl,hF1,hp1,hq1,hb⟩;have HF1:=zh hF1;obtain⟨l2,m2,rfl⟩:=zA0 hb;clear hb hF1)
       | (go_simp;go_at_call 10;refine(host_letter _ _ _ _ hn _).mono ?_;rintro e w1 ⟨hv1,hh1,rfl,hb⟩;have hhv1:=zh hh1;clear hh1;obtain⟨l3,m3,rfl⟩:=zA0 hb;clear hb)
       | (go_simp;go_at_call 7;refine(evnew_any ⟨tp1,0,none⟩ (1+P) hn _ _ hv1 hhv1.out (by omega) (by omega) _).mono ?_;rintro e w1 ⟨pe1,rfl,hE1,hr1,hs1,hb⟩;have HE1:=zh hE1;obtain⟨l4,m4,rfl⟩:=zA0 hb;clear hb hE1))
      all_goals
       go_wp2_with fail
       go_meet
       refine⟨tp1,pe1,rfl,fresh_block HF1.out ((below_pre ⟨l3++l4,by simp⟩).block _ hq1),(by have h:=HE1.out;rw[hhv1.out] at h;simp only[zAO,List.append_assoc] at h;exact h),?_,?_,?_,bel⟩
       all_goals(simp at hp1 hq1 hr1 hs1 ⊢;omega)
     case rest =>
      obtain⟨tp1,pe1,rfl,hF1,hE1,h11,h12,h13,hB1⟩:=hcut
      obtain⟨wA,rfl⟩:∃ wA,wA=wc:=⟨_,rfl⟩
      have hsA:=hB1.size
      replace t0:=cell_below t0 hB1
      replace t1:=cell_below t1 hB1
      replace t2:=cell_below t2 hB1
      replace t3:=cell_below t3 hB1
      replace t4:=cell_below t4 hB1
      replace a0:=cell_below a0 hB1
      replace b0':=cell_below b0' hB1
      replace lt1:=zA2 t1
      replace lt4:=zA2 t4
      replace la:=zA2 a0
      replace lb':=zA2 b0'
      have HFE1:=zh (And.intro hF1 (And.intro hE1 hB1))
      clear hF1 hE1 hB1
      go_wp2_with fail
      go_cut [16] from 102 to 107 (fun sx wx=>∃ tp pe:Nat,sx=.pointer (some ⟨pe,0,none⟩)/\Fresh wx tp/\AtB wx pe (zAc ⟨tp,0,none⟩ (1+P) (if hn then Value.nilIface else .iface 31 (.pointer (some ⟨pb,0,none⟩))))/\wA.heap.size<=tp/\tp<pe/\pe<wx.heap.size/\Below wA.heap.size wA wx)
      case first =>
       go_region_law (first
        | (go_simp;go_at_call 8;refine(new_letter _).mono ?_;rintro e w1 ⟨tp2,rfl,hF2,hp2,hq2,hb⟩;have HF2:=zh hF2;obtain⟨l5,m5,rfl⟩:=zA0 hb;clear hb hF2)
        | (go_simp;go_at_call 10;refine(host_letter _ _ _ _ hn _).mono ?_;rintro e w1 ⟨hv2,hh2,rfl,hb⟩;have hhv2:=zh hh2;clear hh2;obtain⟨l6,m6,rfl⟩:=zA0 hb;clear hb)
        | (go_simp;go_at_call 7;refine(evnew_any ⟨tp2,0,none⟩ (1+P) hn _ _ hv2 hhv2.out (by omega) (by omega) _).mono ?_;rintro e w1 ⟨pe2,rfl,hE2,hr2,hs2,hb⟩;have HE2:=zh hE2;obtain⟨l7,m7,rfl⟩:=zA0 hb;clear hb hE2))
       all_goals
        go_wp2_with fail
        go_meet
        refine⟨tp2,pe2,rfl,fresh_block HF2.out ((below_pre ⟨l6++l7,by simp⟩).block _ hq2),(by have h:=HE2.out;rw[hhv2.out] at h;simp only[zAO,List.append_assoc] at h;exact h),?_,?_,?_,bel⟩
        all_goals(simp at hp2 hq2 hr2 hs2 ⊢;omega)
      case rest =>
       obtain⟨tp2,pe2,rfl,hF2,hE2,h21,h22,h23,hB2⟩:=hcut
       obtain⟨wB,rfl⟩:∃ wB,wB=wc:=⟨_,rfl⟩
       have hsB:=hB2.size
       replace t4:=cell_below t4 hB2
       replace a0:=cell_below a0 hB2
       replace b0':=cell_below b0' hB2
       replace lt4:=zA2 t4
       replace la:=zA2 a0
       replace lb':=zA2 b0'
       have hWB:Below wr.heap.size wr wB:=HFE1.out.2.2.trans (hB2.mono hsA)
       have hX:Below w.heap.size w wB:=HKW.out.trans (hWB.mono HKW.out.size)
       have hE1:=HFE1.out.2.1.below hB2
       have hF1:Fresh wB tp1:=fresh_block HFE1.out.1 (hB2.block _ (by omega))
       have HX:=zh (And.intro hWB (And.intro hX (And.intro hF1 (And.intro hE1 (And.intro hF2 hE2)))))
       clear hWB hX hE1 hF1 hF2 hE2 hB2 t0 t1 t2 t3 lt1
       go_wp2_with fail
       refine(eval_WorkAll xs Af nf cf w.heap.size pe1 (1+P) (if hn then Value.nilIface else .iface 31 (.pointer (some ⟨pa,0,none⟩))) False 1048576 wB BA ⟨pa,A1,c1,EA,hn,ta,tc,told,tp1,hn⟩ (HL.out.hf.below HX.out.2.1) HL.out.nf (fun x hx=>by have:=HL.out.nm x hx;omega) HL.out.x64 HX.out.2.2.2.1 (by cases hn;exact .inr ⟨rfl,rfl⟩;exact .inl ⟨rfl,rfl⟩) ((HS.out.1 tp1).below HX.out.1) (tbG_all HIN.out.1 (by omega) HL.out.oD _ _ _ _ _ _ _ _) (Nat.le_refl _) (by omega) HL.out.nt ⟨by show pa≠tp1;omega,fun h0 b off e=> ?_,fun h0 b off e=> ?_⟩ (.inr HX.out.2.2.1) (by show pe1≠pa;omega) (by show pe1≠tp1;omega) (fun h0 bn off e=> ?_) (fun w' hk=> ?_)).mono ?_
       ·obtain⟨b',off',e',hb,-⟩:=(HS.out.1 0).en.2 h0
        rw[show A1=_ from e'] at e
        cases e
        show b≠tp1
        omega
       ·obtain⟨b',off',e',hb,-⟩:=(HS.out.1 0).tl.2 h0
        rw[show ta=_ from e'] at e
        cases e
        show b≠tp1
        omega
       ·obtain⟨b',off',e',hb,-⟩:=HL.out.hf.2 h0
        rw[e'] at e
        cases e
        exact⟨by show bn≠pa;omega,by show bn≠tp1;omega⟩
       ·have hb:=hk.base (B:=w.heap.size) (w:=w) HX.out.2.1 (Nat.le_refl _) (by show w.heap.size<=pa;omega) (by show w.heap.size<=tp1;omega) (fun k e=>by cases e)
        exact⟨HL.out.hp.below hb (Nat.le_refl _),HL.out.hM.below hb⟩
       rintro e w5 ⟨rfl,hp5,-⟩
       obtain⟨v1,hv1⟩:∃ v,(workG ⟨pa,A1,c1,EA,hn,ta,tc,told,tp1,hn⟩ (1+P) xs).1=v:=⟨_,rfl⟩
       obtain⟨ak,hak⟩:∃ ak,(workG ⟨pa,A1,c1,EA,hn,ta,tc,told,tp1,hn⟩ (1+P) xs).2=ak:=⟨_,rfl⟩
       rw[hv1]
       rw[hak] at hp5
       obtain⟨ask5,na5,hS5,hna5,how5,-⟩:=hp5.ex
       have K5:zBn pa tp1 none wB w5:=hp5.kept
       have hX5:Below w.heap.size w w5:=K5.base HX.out.2.1 (Nat.le_refl _) (by omega) (by omega) (fun k e=>by cases e)
       have hs5:wB.heap.size<=w5.heap.size:=K5.2.2.2.1
       have hW2:workG ⟨pb,Av,cv,L,hn,ta,tc,told,tp2,hn⟩ (1+P) xs=workG ⟨pa,A1,c1,EA,hn,ta,tc,told,tp1,hn⟩ (1+P) xs:=workG_same (ta:=⟨pa,A1,c1,EA,hn,ta,tc,told,tp1,hn⟩) (tb:=⟨pb,Av,cv,L,hn,ta,tc,told,tp2,hn⟩) rfl rfl (1+P) xs other (show L=sameE (ofG xs) EA other from by rw[HRG.out];exact HLL.out.symm)
       rw[Prod.ext_iff,hv1,hak] at hW2
       have f5:w5.cell? ⟨w.heap.size,0,none⟩=some (.slice Af nf cf):=K5.cell (by omega) (by omega) (by simp) t4
       have b5:w5.cell? ⟨pb,0,none⟩=some (.slice Av L.length cv):=K5.cell (by omega) (by omega) (by simp) b0'
       have hkb:∀ k,k<wB.heap.size->k≠pa->k≠tp1->w5.heap[k]? =wB.heap[k]? :=fun k k1 k2 k3=>K5.2.2.2.2 k k1 k2 k3 (by simp)
       have hSB5:SrcG w5 wr.heap.size ⟨pb,Av,cv,L,hn,ta,tc,told,tp2,hn⟩ (.slice none 0 0) 0 []:=by
        refine((HS.out.2.1 tp2).below HX.out.1).far K5 (by show pb≠pa;omega) (by show pb≠tp1;omega) (fun h0 b off e=> ?_) (fun h0 b off e=> ?_)
        ·have:=HS.out.2.2 h0 b off e
         exact⟨by omega,by omega⟩
        ·obtain⟨b',off',e',hb,hb2,-⟩:=(HS.out.1 0).tl.2 h0
         rw[show ta=_ from e'] at e
         cases e
         have hb2:b≠pa:=hb2
         exact⟨by omega,by omega⟩
       have hF25:Fresh w5 tp2:=fresh_block HX.out.2.2.2.2.1 (hkb tp2 (by omega) (by omega) (by omega))
       have hE25:=at_block HX.out.2.2.2.2.2 (hkb pe2 (by omega) (by omega) (by omega))
       have lf5:=zA2 f5
       have lb5:=zA2 b5
       have H5:=zh (And.intro hS5 (And.intro how5 (And.intro hX5 (And.intro hSB5 (And.intro hF25 hE25)))))
       have HW2:=zh hW2
       have hq:=fun (X:World)=>eqlV v1.tag v1.num v1.str v1.is v1.code v1.tag v1.num v1.str v1.is v1.code X
       rw[show eqB _ _=true from by unfold eqB;simp] at hq
       clear hp5 hS5 how5 K5 hX5 hW2 hSB5 hF25 hE25 hkb hv1 hak t4 a0 b0' lt4 la lb'
       go_wp2_with fail
       refine(eval_WorkAll xs Af nf cf w.heap.size pe2 (1+P) (if hn then Value.nilIface else .iface 31 (.pointer (some ⟨pb,0,none⟩))) False 1048576 _ wr.heap.size ⟨pb,Av,cv,L,hn,ta,tc,told,tp2,hn⟩ (HL.out.hf.below (H5.out.2.2.1.trans (Below.mono (B:=w5.heap.size) bel (by omega)))) HL.out.nf (fun x hx=>by have:=HL.out.nm x hx;omega) HL.out.x64 (H5.out.2.2.2.2.2.below bel) (by cases hn;exact .inr ⟨rfl,rfl⟩;exact .inl ⟨rfl,rfl⟩) (H5.out.2.2.2.1.below bel) (tbG_all HIN.out.2.1 HIN.out.2.2 HL.out.oD _ _ _ _ _ _ _ _) (Nat.le_refl _) (by omega) HL.out.nt ⟨by show pb≠tp2;omega,fun h0 b off e=> ?_,fun h0 b off e=> ?_⟩ (zCF.below (.inr H5.out.2.2.2.2.1) bel) (by show pe2≠pb;omega) (by show pe2≠tp2;omega) (fun h0 bn off e=> ?_) (fun w' hk=> ?_)).mono ?_
       ·have:=HS.out.2.2 h0 b off e
        show b≠tp2
        omega
       ·obtain⟨b',off',e',hb,-⟩:=(HS.out.1 0).tl.2 h0
        rw[show ta=_ from e'] at e
        cases e
        show b≠tp2
        omega
       ·obtain⟨b',off',e',hb,-⟩:=HL.out.hf.2 h0
        rw[e'] at e
        cases e
        exact⟨by show bn≠pb;omega,by show bn≠tp2;omega⟩
       ·have hb:=hk.base (B:=w.heap.size) (w:=w) (H5.out.2.2.1.trans (Below.mono (B:=w5.heap.size) bel (by omega))) (Nat.le_refl _) (by show w.heap.size<=pb;omega) (by show w.heap.size<=tp2;omega) (fun k e=>by cases e)
        exact⟨HL.out.hp.below hb (Nat.le_refl _),HL.out.hM.below hb⟩
       rw[HW2.out.1,HW2.out.2]
       rintro e w6 ⟨rfl,hp6,-⟩
       obtain⟨ask6,na6,hS6,-,-,-⟩:=hp6.ex
       obtain⟨X2,hX2⟩:∃ X2,w5.alloc (.cells #[.int .i64 v1.tag,.int .i64 v1.num,.string v1.str,.bool v1.is,.int .i64 v1.code] 44)=X2:=⟨_,rfl⟩
       have hz:X2.heap.size=w5.heap.size+1:=by rw[<- hX2];exact alz _ _
       have hb52:Below w5.heap.size w5 X2:=by rw[<- hX2];exact bel
       have hv2:AtB X2 w5.heap.size [.int .i64 v1.tag,.int .i64 v1.num,.string v1.str,.bool v1.is,.int .i64 v1.code]:=by rw[<- hX2];exact AtB.new rfl
       rw[hX2] at hp6
       have K6:zBn pb tp2 none X2 w6:=hp6.kept
       have hs6:X2.heap.size<=w6.heap.size:=K6.2.2.2.1
       have hX6:Below w.heap.size w w6:=K6.base (H5.out.2.2.1.trans (hb52.mono (by omega))) (Nat.le_refl _) (by omega) (by omega) (fun k e=>by cases e)
       obtain⟨A5,c5,e5,-,-⟩:=zAk H5.out.1.own
       obtain⟨A6,c6,e6,-,-⟩:=zAk hS6.own
       have p5:w6.cell? ⟨pa,1,none⟩=some (.slice A5 na5 c5):=K6.cell (by omega) (by omega) (by simp) (cell_below (by rw[<- e5];exact H5.out.1.at0 1 _ rfl) hb52)
       have p6:w6.cell? ⟨pb,1,none⟩=some (.slice A6 na6 c6):=by rw[<- e6];exact hS6.at0 1 _ rfl
       have n5:(zBi Ak.cells ak).length=na5*8:=H5.out.1.own.1
       have n6:(zBi Ak.cells ak).length=na6*8:=hS6.own.1
       obtain rfl:na5=na6:=by omega
       have r5:Reads w6 w6.heap.size 8 A5 na5 (zBi Ak.cells ak):=by
        refine⟨n5,fun h0=> ?_⟩
        have ho:=H5.out.1.own
        have hw:=H5.out.2.1
        rw[e5] at ho hw
        obtain⟨g,cc',eg,-,-,k1,k2,k3,-⟩:=zAf ho h0
        cases eg
        have hg:wB.heap.size<=g:=by
         rcases hw with hw|hw
         ·cases hw
         ·exact hw g rfl
        exact⟨g,0,rfl,by omega,fun i u hu=>by rw[Nat.zero_add];exact K6.cell (by omega) (by omega) (by simp) (cell_below (k3 i u hu) hb52)⟩
       have r6:Reads w6 w6.heap.size 8 A6 na5 (zBi Ak.cells ak):=by
        refine⟨n5,fun h0=> ?_⟩
        have ho:=hS6.own
        rw[e6] at ho
        obtain⟨g,cc',eg,-,-,k1,k2,k3,-⟩:=zAf ho h0
        cases eg
        exact⟨g,0,rfl,k2,fun i u hu=>by rw[Nat.zero_add];exact k3 i u hu⟩
       have u0:w6.cell? ⟨w5.heap.size,0,none⟩=some (.int .i64 v1.tag):=K6.cell (by omega) (by omega) (by simp) (hv2 0 _ rfl)
       have u1:w6.cell? ⟨w5.heap.size,1,none⟩=some (.int .i64 v1.num):=K6.cell (by omega) (by omega) (by simp) (hv2 1 _ rfl)
       have u2:w6.cell? ⟨w5.heap.size,2,none⟩=some (.string v1.str):=K6.cell (by omega) (by omega) (by simp) (hv2 2 _ rfl)
       have u3:w6.cell? ⟨w5.heap.size,3,none⟩=some (.bool v1.is):=K6.cell (by omega) (by omega) (by simp) (hv2 3 _ rfl)
       have u4:w6.cell? ⟨w5.heap.size,4,none⟩=some (.int .i64 v1.code):=K6.cell (by omega) (by omega) (by simp) (hv2 4 _ rfl)
       have lu:=zA2 u0
       have lp5:=zA2 p5
       have lp6:=zA2 p6
       have HAL:=zh (fun (X:World) (hb:Below w6.heap.size w6 X)=>law_alike ak A5 A6 na5 c5 c6 w6.heap.size w6.heap.size X (r5.below hb) (r6.below hb) (by have:=HL.out.nf;omega))
       have HLV:=zh (fun (X:World) (hb:Below w.heap.size w X)=>lives1 X (HL.out.hp.below hb (Nat.le_refl _)) (HL.out.hM.below hb))
       have HX6:=zh hX6
       have hsx6:=hX6.size
       clear hp6 hS6 K6 hX6 r5 r6 hX2 hv2 hb52 f5 b5 lf5 lb5 e5 e6 n5 n6
       go_wp2_with fail
       go_region_law (go_simp;go_at_call 19;refine mB (HAL.out _ bel) ?_;intro l8 m8)
       all_goals
        go_wp2_with(go_at_call 13;refine mB (HLV.out _ (HX6.out.trans (Below.mono (B:=w6.heap.size) bel hsx6))) ?_;intro l9 m9)
        go_ret
        exact⟨rfl,HX6.out.trans (Below.mono (B:=w6.heap.size) bel hsx6)⟩
end Go.Proofs.YtppghgnhlgoagaaGreatDoor
