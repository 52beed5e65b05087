/- Parts. -/
import Derived.Test.YtnccknhbplaieaaGreatDoorC02
import Derived.WalkSmall
import Derived.Laws.OwnMore
import Derived.Deep.DeepCutAuto
import Derived.Laws.EntriesVeiled
set_option linter.all false
set_option maxRecDepth 100000
set_option maxHeartbeats 4000000
namespace Go.Proofs.YtnccknhbplaieaaGreatDoor
open Go Go.RowKit Go.Proofs.Tryz
open _root_.List renaming getElem?_eq_getElem->Q3,length_cons->Q5,drop_eq_getElem_cons->Q7,getElem?_eq_some_iff->Q9,drop_of_length_le->QA,getD->QD,length_take->QI
open Go.World renaming block_lt_of_cell?->Q4,cell?_alloc_lt->QE
open Go.IntKind renaming wrap_i64->Q8,i64->QC,wrap_u64->QH
open _root_.Nat renaming le_refl->QB,pow_succ->QF,zero_le->QG
theorem stk_below {w w1:World} {base e size n:Nat} {v:Value} {xs:List Value} (h:w.ownsRow base e size v n xs) (hb:Below w.heap.size w w1):w1.ownsRow base e size v n xs:=by
 refine⟨h.1,?_⟩;rcases h.2 with h2|⟨g,cap,cur,e1,hg,hh,rest⟩
 ·exact .inl h2
 ·exact .inr ⟨g,cap,cur,e1,hg,(hb.block g (Array.getElem?_eq_some_iff.1 hh).1).trans hh,rest⟩
theorem stk_form {w:World} {base e size n:Nat} {v:Value} {xs:List Value} (h:w.ownsRow base e size v n xs) (hn:0<n):∃ g c,v=.slice (some ⟨g,0,none⟩) n c/\n<=c/\c<=maxLen/\base<=g/\g<w.heap.size/\(∀ j u,xs[j]? =some u->w.cell? ⟨g,j,none⟩=some u)/\∀ j,w.frozen? ⟨g,j,none⟩=false:=by
 rcases h.2 with ⟨_,h2⟩|⟨g,cap,cur,e1,hg,hh,h1,h2,h3,h4⟩
 ·omega
 ·subst e1;refine⟨g,cap,rfl,h1,h2,hg,(Array.getElem?_eq_some_iff.1 hh).1,fun j u hu=> ?_,fun j=>h.frozenAt j⟩;have hj:j<xs.length:=(Q9.1 hu).1;rw[h.cellAt j (by rw[<- h.1];exact hj),hu]
theorem zBp {w:World} {cs:Array Value} {t:TypeId} {b:Nat} (hb:b=w.heap.size):∀ j u,cs.toList[j]? =some u->(w.alloc (.cells cs t)).cell? ((⟨b,0,none⟩:Addr).add j)=some u:=by
 subst hb;intro j u hu;have e:(⟨w.heap.size,0,none⟩:Addr).add j=⟨w.heap.size,j,none⟩:=by unfold Addr.add;split<;>simp_all
 rw[e,cell_of_row (w.alloc (.cells cs t)) w.heap.size j cs t (0,0) (heap_alloc_new w _)]
 simpa using hu
def StkRel (w wr:World) (e:TypeId) (size:Nat) (v:Value) (k:Nat) (xs:List Value):Prop:=Below w.heap.size w wr/\wr.ownsRow w.heap.size e size v k xs
theorem StkRel.step {w wr w2 w3:World} {e:TypeId} {size:Nat} {v v':Value} {k k':Nat} {xs ys:List Value} (h:StkRel w wr e size v k xs) (hb:Below wr.heap.size wr w2)
  (ho:w3.ownsRow w.heap.size e size v' k' ys) (hg:w2.grownBy w3 v.ownBlock):StkRel w w3 e size v' k' ys:=by
 obtain⟨h1,h3⟩:=h;have ha:∀ k,v.ownBlock=some k->w.heap.size<=k:=fun k hk=>(h3.lt k hk).1;have s1:=h1.size;have s2:=hb.size;exact⟨(h1.trans (hb.mono (by omega))).grown hg (by omega) ha,ho⟩
theorem StkRel.below {w wr w2:World} {e:TypeId} {size:Nat} {v:Value} {k:Nat} {xs:List Value} (h:StkRel w wr e size v k xs) (hb:Below wr.heap.size wr w2):StkRel w w2 e size v k xs :=
 ⟨h.1.trans (hb.mono h.1.size),stk_below h.2 hb⟩
def flatC {α:Type} (f:α->List Value) (l:List α):List Value:=l.flatMap f
theorem flatC_at {α:Type} (f:α->List Value) (size:Nat) (hf:∀ x,(f x).length=size) (l:List α) (j:Nat) (x:α) (hx:l[j]? =some x) (i:Nat) (u:Value) (hu:(f x)[i]? =some u):(flatC f l)[j*size+i]? =some u:=by
 induction l generalizing j with
 | nil=>simp at hx
 | cons a l ih =>
   have e:flatC f (a::l)=f a++flatC f l:=by simp[flatC]
   rw[e];cases j with
   | zero =>
     simp only[List.getElem?_cons_zero,Option.some.injEq] at hx;subst hx;have hi:i<(f a).length:=(Q9.1 hu).1;rw[Nat.zero_mul,Nat.zero_add,List.getElem?_append_left hi];exact hu
   | succ j =>
     simp only[List.getElem?_cons_succ] at hx;have h1:=ih j hx;have h2:(j+1)*size+i=(f a).length+(j*size+i):=by rw[hf,Nat.add_mul];omega
     rw[h2,List.getElem?_append_right (by omega),Nat.add_sub_cancel_left];exact h1
def AtB (w:World) (p:Nat) (l:List Value):Prop:=∀ j u,l[j]? =some u->w.cell? ⟨p,j,none⟩=some u
theorem AtB.below {w w':World} {p:Nat} {l:List Value} (h:AtB w p l) (hb:Below w.heap.size w w'):AtB w' p l:=fun j u hu=>by
 have h1:=h j u hu;have h2:=cltK h1;exact(hb.cell (p:=⟨p,j,none⟩) (by simpa using h2)).trans h1
theorem cell_below {w w':World} {p j:Nat} {u:Value} (h:w.cell? ⟨p,j,none⟩=some u) (hb:Below w.heap.size w w'):w'.cell? ⟨p,j,none⟩=some u :=
 (hb.cell (p:=⟨p,j,none⟩) (by simpa using Q4 w _ h)).trans h
theorem AtB.new {w:World} {cs:Array Value} {t:TypeId} {p:Nat} (hp:p=w.heap.size):AtB (w.alloc (.cells cs t)) p cs.toList:=by
 subst hp;intro j u hu;rw[cell_of_row (w.alloc (.cells cs t)) w.heap.size j cs t (0,0) (heap_alloc_new w _)]
 simpa using hu
theorem AtB.allocI {w:World} {p:Nat} {l:List Value} (h:AtB w p l) (o:Obj):AtB (w.alloc o) p l:=fun j u hu=>(QE w _ _ (Q4 w _ (h j u hu))).trans (h j u hu)
theorem cell_ltJ {w:World} {b i:Nat} {v:Value} (h:w.cell? ⟨b,i,none⟩=some v):b<w.heap.size:=Q4 w _ h
theorem zAq {w:World} {p i:Nat} {v:Value} (h:w.cell? ⟨p,i,none⟩=some v) (o:Obj):(w.alloc o).cell? ⟨p,i,none⟩=some v:=(QE w _ _ (Q4 w _ h)).trans h
theorem zAv {w:World} {p i:Nat} {v:Value} (h:w.cell? ⟨p,i,none⟩=some v) (l:List Obj) (n:Nat):(more w l n).cell? ⟨p,i,none⟩=some v:=(more_cell (Q4 w _ h)).trans h
theorem zB3 {w:World} {p i:Nat} {v:Value} (h:w.cell? ⟨p,i,none⟩=some v):w.drew.cell? ⟨p,i,none⟩=some v:=h
def projN:Value->Option (Int×Int)
 | .agg ⟨[.int _ a,.int _ b,_]⟩=>some (a,b)
 | _=>none
def projNF:Value->Option Value
 | .agg ⟨[_,_,f]⟩=>some f
 | _=>none
def zAd (s:ByteArray):Option (Int×Int) :=
 if (⟨#[79,68,68]⟩:ByteArray)=s then some (1,1) else
 if (⟨#[67,76,65,77,80]⟩:ByteArray)=s then some (3,3) else
 if (⟨#[70,65,67,84]⟩:ByteArray)=s then some (1,1) else
 if (⟨#[76,67,77]⟩:ByteArray)=s then some (1,16) else
 if (⟨#[71,67,68]⟩:ByteArray)=s then some (1,16) else
 if (⟨#[83,81,82,84]⟩:ByteArray)=s then some (1,1) else
 if (⟨#[80,79,87,69,82]⟩:ByteArray)=s then some (2,2) else
 if (⟨#[81,85,79,84]⟩:ByteArray)=s then some (2,2) else
 if (⟨#[77,79,68]⟩:ByteArray)=s then some (2,2) else
 if (⟨#[67,69,73,76]⟩:ByteArray)=s then some (2,2) else
 if (⟨#[70,76,79,79,82]⟩:ByteArray)=s then some (2,2) else
 if (⟨#[82,79,85,78,68]⟩:ByteArray)=s then some (1,2) else
 if (⟨#[84,82,85,78,67]⟩:ByteArray)=s then some (1,2) else
 if (⟨#[73,78,84]⟩:ByteArray)=s then some (1,1) else
 if (⟨#[83,73,71,78]⟩:ByteArray)=s then some (1,1) else
 if (⟨#[65,66,83]⟩:ByteArray)=s then some (1,1) else none
def numFn (p1 p2 p3:Nat) (s:ByteArray):Option Value :=
 if (⟨#[79,68,68]⟩:ByteArray)=s then some (.func (.func 205) #[] #[]) else
 if (⟨#[67,76,65,77,80]⟩:ByteArray)=s then some (.func (.func 204) #[] #[]) else
 if (⟨#[70,65,67,84]⟩:ByteArray)=s then some (.func (.func 203) #[] #[]) else
 if (⟨#[76,67,77]⟩:ByteArray)=s then some (.func (.func 202) #[] #[]) else
 if (⟨#[71,67,68]⟩:ByteArray)=s then some (.func (.func 201) #[] #[]) else
 if (⟨#[83,81,82,84]⟩:ByteArray)=s then some (.func (.func 199) #[] #[]) else
 if (⟨#[80,79,87,69,82]⟩:ByteArray)=s then some (.func (.func 269) #[] #[.pointer (some ⟨p3,0,none⟩)]) else
 if (⟨#[81,85,79,84]⟩:ByteArray)=s then some (.func (.func 197) #[] #[]) else
 if (⟨#[77,79,68]⟩:ByteArray)=s then some (.func (.func 195) #[] #[]) else
 if (⟨#[67,69,73,76]⟩:ByteArray)=s then some (.func (.func 194) #[] #[]) else
 if (⟨#[70,76,79,79,82]⟩:ByteArray)=s then some (.func (.func 192) #[] #[]) else
 if (⟨#[82,79,85,78,68]⟩:ByteArray)=s then some (.func (.func 269) #[] #[.pointer (some ⟨p2,0,none⟩)]) else
 if (⟨#[84,82,85,78,67]⟩:ByteArray)=s then some (.func (.func 269) #[] #[.pointer (some ⟨p1,0,none⟩)]) else
 if (⟨#[73,78,84]⟩:ByteArray)=s then some (.func (.func 186) #[] #[]) else
 if (⟨#[83,73,71,78]⟩:ByteArray)=s then some (.func (.func 185) #[] #[]) else
 if (⟨#[65,66,83]⟩:ByteArray)=s then some (.func (.func 184) #[] #[]) else none
def NumFound (s:ByteArray) (x y:Int) (e:Ending) (w':World):Prop:=∃ fn first cap,e=.returned (.tuple #[.agg #[.int .i64 x,.int .i64 y,.func fn first cap],.bool true]) /\
 ∃ p1 p2 p3,numFn p1 p2 p3 s=some (.func fn first cap)/\w'.cell? ⟨p1,0,none⟩=some (.func (.func 190) #[] #[])/\w'.cell? ⟨p2,0,none⟩=some (.func (.func 191) #[] #[])/\w'.cell? ⟨p3,0,none⟩=some (.func (.func 198) #[] #[])
def NumMissed (e:Ending):Prop:=e=.returned (.tuple #[.agg #[.int .i64 0,.int .i64 0,.nilFunc],.bool false])
def NumPost (s:ByteArray) (e:Ending) (w':World):Prop:=(∃ x y,zAd s=some (x,y)/\NumFound s x y e w')∨(zAd s=none/\NumMissed e)
theorem nums_find0 (s:ByteArray) (w:World):Calls prog 145 #[.string s] w fun e w'=>NumPost s e w'/\Below w.heap.size w w':=by
 have hmk:∀ w,(Instr.makeMap 205 none).run prog w=.ok (.map (some w.heap.size)) (zAE (w.alloc (.map #[] 0)) w.heap.size []):=fun w=>run_makeMapS w _;have hst:∀ (w:World) (b:Nat) (L:List (ByteArray×Value)) (s:ByteArray) (v:Value),b<w.heap.size->(Instr.mapUpdate 205 (.map (some b)) (.string s) v).run prog (zAE w b L)=.ok () (zAE w b (ups s v L)):=fun w b L s v h=>run_storeS underlying9 underlying205 w h s v L;go_enter func145,ntmps145;go_wp2_with(first|go_in|(at_lookup;refine wpList_lookN rfl 205 _ _ rfl 9 168 underlying9 underlying205 (.agg #[.int .i64 0,.int .i64 0,.nilFunc]) (fun w=>by kernel_rfl) _ _ _ rfl (by simp) _ rfl ?_ ?_ ?_))
 ·repeat(with_reducible refine AllV.ups ?_ (funN _ _ _ _ _))
  exact AllV.nil _
 ·intro x y fn first cap hv
  go_wp2;go_returns;refine⟨.inl ⟨x,y,?_,fn,first,cap,rfl,w.heap.size+1+1,w.heap.size+1+1+1,w.heap.size+1+1+1+1,?_,?_,?_,?_⟩,?_⟩
  ·have h:=congrArg (fun o=>o.bind projN) hv.out;simp only[bind_ups,bind_nil] at h;exact h
  ·have h:=congrArg (fun o=>o.bind projNF) hv.out;simp only[bind_ups,bind_nil] at h;exact h
  ·clear hv;go_simp
  ·clear hv;go_simp
  ·clear hv;go_simp
  ·refine zBk ?_ (by simp);exact bel
 ·intro hv;go_wp2;go_returns;refine⟨.inr ⟨?_,rfl⟩,?_⟩
  ·have h:=congrArg (fun o=>o.bind projN) hv.out;simp only[bind_ups,bind_nil] at h;exact h
  ·refine zBk ?_ (by simp);exact bel
theorem nums_find_yes (s:ByteArray) (x y:Int) (h:zAd s=some (x,y)) (w:World):Calls prog 145 #[.string s] w fun e w'=>NumFound s x y e w'/\Below w.heap.size w w' :=
 (nums_find0 s w).mono fun e w' ⟨hp,hb⟩=>by
  rcases hp with ⟨x',y',h',hf⟩|⟨h',_⟩
  ·rw[h] at h';cases h';exact⟨hf,hb⟩
  ·rw[h] at h';cases h'
theorem nums_find_no (s:ByteArray) (h:zAd s=none) (w:World):Calls prog 145 #[.string s] w fun e w'=>NumMissed e/\Below w.heap.size w w' :=
 (nums_find0 s w).mono fun e w' ⟨hp,hb⟩=>by
  rcases hp with ⟨x',y',h',hf⟩|⟨_,hm⟩
  ·rw[h] at h';cases h'
  ·exact⟨hm,hb⟩
open Go.Lib renaming hid->zh
def Row (w:World) (v:Value) (l:List Nat):Prop:=∃ A c,v=.slice A l.length c/\l.length<=c/\(0<l.length->∃ g,A=some ⟨g,0,none⟩/\g<w.heap.size/\∀ j {x},l[j]? =some x->w.cell? ⟨g,j,none⟩=some (.int .i64 ((x:Nat):Int)))
theorem Row.below {w w':World} {v:Value} {l:List Nat} (h:Row w v l) (hb:Below w.heap.size w w'):Row w' v l:=by
 obtain⟨A,c,rfl,hc,h⟩:=h;refine⟨A,c,rfl,hc,fun h0=> ?_⟩;obtain⟨g,rfl,hg,hx⟩:=h h0;exact⟨g,rfl,Nat.lt_of_lt_of_le hg hb.size,fun j x hj=>(hb.cell (p:=⟨g,j,none⟩) hg).trans (hx j hj)⟩
def Ints (l:List Nat):List Value:=l.map fun n=>.int .i64 ((n:Nat):Int)
theorem zBL {w:World} {base e:Nat} {v:Value} {l:List Nat} (h:w.ownsRow base e 1 v l.length (Ints l)):Row w v l:=by
 rcases Nat.eq_zero_or_pos l.length with h0|h0
 ·rcases h.2 with ⟨rfl,_⟩|⟨g,cap,cur,rfl,_,_,h2,_⟩
  ·exact⟨none,0,by rw[h0],by omega,fun h=>by omega⟩
  ·exact⟨_,cap,rfl,h2,fun h=>by omega⟩
 ·obtain⟨g,c,rfl,hc,_,_,hg,hx,_⟩:=stk_form h h0;exact⟨_,c,rfl,hc,fun _=>⟨g,rfl,hg,fun j x hj=>hx j _ (by unfold Ints;rw[List.getElem?_map,hj];rfl)⟩⟩
theorem cut_mem {l:List Nat} {j x:Nat} (h:(cutL l)[j]? =some x):l[j]? =some x:=by
 have e:=cutL_take l;generalize (cutL l).length=n at e;rw[e,List.getElem?_take] at h;split at h
 ·exact h
 ·cases h
theorem cut_last {l:List Nat} {k:Nat} (hk:k<l.length) (hz:∀ j,k<j->j<l.length->l.getD j 0=0) (hn:l.getD k 0≠0):(cutL l).length=k+1:=by
 induction l generalizing k with
 | nil=>simp at hk
 | cons a l ih =>
   unfold cutL;cases k with
   | zero =>
     have ha:a≠0:=by simpa using hn
     rw[if_neg (fun h=>ha h.1)];have:cutL l=[]:=by
      clear ih hn ha hk
      induction l with
      | nil=>rfl
      | cons b l ih =>
        unfold cutL;have hb:b=0:=by simpa using hz 1 (by omega) (by simp)
        rw[if_pos ⟨hb,ih (fun j h1 h2=>by
         have:=hz (j+1) (by omega) (by simp only[Q5] at h2 ⊢;omega);cases j with
         | zero=>omega
         | succ j=>simpa using this)⟩]
     rw[this]
     rfl
   | succ k =>
     have h1:=ih (k:=k) (by simpa using hk) (fun j h1 h2=>by simpa using hz (j+1) (by omega) (by simp only[Q5];omega)) (by simpa using hn);have:cutL l≠[]:=fun e=>by rw[e] at h1;simp at h1
     rw[if_neg (fun h=>this h.2),Q5,h1]
theorem cut_none {l:List Nat} (hz:∀ j,j<l.length->l.getD j 0=0):cutL l=[]:=by
 induction l with
 | nil=>rfl
 | cons a l ih =>
   unfold cutL;rw[if_pos ⟨by simpa using hz 0 (by simp),ih (fun j hj=>by simpa using hz (j+1) (by simp only[Q5];omega))⟩]
theorem r1_cut (l:List Nat) (v:Value) (hl:l.length<=1000000) (w:World) (h:Row w v l):Calls prog 256 #[v] w fun e w'=>∃ v',e=.returned v'/\Row w v' (cutL l)/\w'=w:=by
 obtain⟨A,c,rfl,hc,hx⟩:=h;go_enter func256,ntmps256;go_wp2
 go_loopw [3] (fun p wr=>∃ k:Nat,k<=l.length/\p=.int .i64 k/\wr=w/\RowKit.Hid (∀ j,k<=j->j<l.length->l.getD j 0=0)) (fun p _=>(intOf p).toNat)
 case atStart=>exact⟨l.length,QB _,rfl,rfl,zh (fun j h1 h2=>by omega)⟩
 case round =>
  obtain⟨k,hk,rfl,rfl,hz⟩:=hrel;by_cases hk0:k=0
  ·subst hk0;have h0:=zh (cut_none (l:=l) (fun j hj=>hz.out j (QG _) hj));go_wp2;go_returns;exact⟨_,rfl,⟨A,c,by rw[h0.out];rfl,by rw[h0.out];exact QG _,fun h=>by rw[h0.out] at h;exact absurd h (by decide)⟩,rfl⟩
  ·obtain⟨k,rfl⟩:∃ j,k=j+1:=⟨k-1,by omega⟩
   obtain⟨g,rfl,hg,hx⟩:=hx (by omega);have hkI:(0:Int)<((k+1:Nat):Int):=by omega
   have w1:QC.wrap (((k+1:Nat):Int)-1)=(k:Int):=by rw[Q8];omega
   have hd:=hx k (by rw[Q3 (show k<l.length by omega)]);obtain⟨x,ha⟩:=lt_ (l[k]'(show k<l.length by omega));rw[ha] at hd;by_cases hx0:x=0
   ·subst hx0;go_wp2;refine⟨⟨k,by omega,rfl,trivial,zh fun j h1 h2=> ?_⟩,by simp[intOf]⟩;by_cases hj:j=k
    ·subst hj;rw[QD,Q3 (show j<l.length by omega),ha]
     rfl
    ·exact hz.out j (by omega) h2
   ·have hb:=zh (cut_last (l:=l) (k:=k) (by omega) (fun j h1 h2=>hz.out j (by omega) h2) (by rw[QD,Q3 (show k<l.length by omega),ha];exact hx0));have HX:=zh @hx;clear hx;go_wp2;go_returns;exact⟨_,rfl,⟨_,c,by rw[hb.out];rfl,by rw[hb.out];omega,fun _=>⟨g,rfl,hg,fun j x hj=>HX.out j (cut_mem hj)⟩⟩,rfl⟩
theorem infoInt:(prog.info? 3).map (fun i=>(i.zero,i.size,i.bytes))=some (some (.int .i64 0),1,8):=by kernel_rfl
theorem zB6:∀ (f n:Nat),n<10000 ^ f->(digs n).length<=f
 | 0,n,h=>by
   obtain rfl:n=0:=by simpa using h
   exact QB _
 | f+1,n,h=>by
   by_cases h0:n=0
   ·subst h0;exact QG _
   ·rw[digs_pos h0,Q5];rw[QF] at h;exact Nat.succ_le_succ (zB6 f (n / 10000) (by omega))
theorem r1_great (n:Nat) (hn:n<18446744073709551616) (w:World):Calls prog 157 #[.int .u64 ((n:Nat):Int)] w fun e w'=>∃ v',e=.returned v'/\Row w' v' (digs n)/\Below w.heap.size w w':=by
 obtain⟨i0,hi,hh,hj,hl⟩:=info_parts infoInt;go_enter func157,ntmps157;go_wp2
 go_loopw [0,3] (fun p v wr=>∃ (m:Nat) (acc:List Nat),p=.int .u64 ((m:Nat):Int)/\m<=n/\RowKit.Hid (acc++digs m=digs n)/\wr.ownsRow w.heap.size 3 1 v acc.length (Ints acc)/\Below w.heap.size w wr) (fun p _ _=>(intOf p).toNat)
 case atStart=>exact⟨n,[],rfl,QB _,zh rfl,World.ownsRow_nil _ _ _ _,bel⟩
 case round =>
  obtain⟨m,acc,rfl,hm,hd,ha,hB⟩:=hrel;by_cases h0:m=0
  ·subst h0;go_wp2;go_returns;rw[digs_zero,List.append_nil] at hd;exact⟨_,rfl,by rw[<- hd.out];exact zBL ha,hB⟩
  ·have hmI:(0:Int)<(m:Int):=by omega
   have hal:acc.length<=5:=by
    have h1:=congrArg List.length hd.out;rw[List.length_append] at h1;have:=zB6 5 n (by omega);omega
   have he:=digs_pos h0;have t1:(m:Int).tmod 10000=((m % 10000:Nat):Int):=by rw[Int.tmod_eq_emod_of_nonneg (by omega)];omega
   have t2:(m:Int).tdiv 10000=((m / 10000:Nat):Int):=by rw[Int.tdiv_eq_ediv_of_nonneg (by omega)];omega
   have t3:(m:Int) % 10000=((m % 10000:Nat):Int):=by omega
   have t4:(m:Int) / 10000=((m / 10000:Nat):Int):=by omega
   obtain⟨r,hr⟩:=lt_ (m % 10000);obtain⟨q,hq⟩:=lt_ (m / 10000);have hr2:r<10000:=by omega
   have hq2:q<=18446744073709551615:=by omega
   have HQ:=zh (show q<m by omega);rw[hr] at t1 t3 he;rw[hq] at t2 t4 he;have w1:IntKind.u64.wrap (r:Int)=(r:Int):=by rw[QH];omega
   have w2:QC.wrap (r:Int)=(r:Int):=by rw[Q8];omega
   have w3:IntKind.u64.wrap (q:Int)=(q:Int):=by rw[QH];omega
   have HD:=zh he;have hf:=zh hd.out;clear he hr hq;have hml:maxLen=9223372036854775807:=by decide
   go_wp2_with(at_builtin;refine wpList_append_own _ rfl _ _ 94 rfl w.heap.size 3 i0 (.int .i64 0) 1 8 underlying94 hi hh hj hl rfl (by decide) _ _ _ rfl (ha.alloc _) ⟨wr.heap.size,0,none⟩ 1 1 [.int .i64 ((r:Nat):Int)] rfl rfl (fun j u hu=>zBp (by simp) j u hu) (fun u hu=>by simp at hu;subst hu;rfl) (by omega) (by omega) (by have:=hB.size;simp;omega) ?_;intro v' w1 hc hb _;have hg:=(hB.alloc hB.size (.cells #[.int .i64 (r:Int)] 3)).grown hb (by have:=hB.size;simp;omega) (fun k hk=>(ha.lt k hk).1))
   have hqm:=HQ.out;refine⟨⟨q,acc++[r],rfl,by omega,zh ?_,by simpa [Ints] using hc,hg⟩,by simp[intOf];omega⟩;rw[<- hf.out,HD.out];simp
theorem digs_low:∀ (n:Nat),n≠0->10000 ^ (digs n).length<=10000*n:=fun n=>by
 induction n using Nat.strongRecOn with
 | _ n ih =>
   intro h0;rw[digs_pos h0,Q5,QF];by_cases hq:n / 10000=0
   ·rw[hq,digs_zero];simp;omega
   ·have:=ih (n / 10000) (by omega) hq;omega
theorem digs_more {a b:Nat} (h:(digs a).length<(digs b).length):a<b:=by
 have h1:=val_lt (digs a) (zAs a);rw[zAl] at h1;have hb:b≠0:=fun e=>by subst e;simp[digs_zero] at h
 have h2:=digs_low b hb;have h3:10000 ^ ((digs a).length+1)<=10000 ^ (digs b).length:=Nat.pow_le_pow_right (by decide) h;rw[QF] at h3;omega
theorem val_word {la lb:List Nat} {i:Nat} (ha:Low la) (hla:i<la.length) (hlb:i<lb.length) (he:la.drop (i+1)=lb.drop (i+1)) (h:la.getD i 0<lb.getD i 0):valL la<valL lb:=by
 have s:∀ (l:List Nat),i<l.length->valL l=valL (l.take i)+10000 ^ i*(l.getD i 0+10000*valL (l.drop (i+1))):=fun l hl=>by
  have e:l=l.take i++l.drop i:=(List.take_append_drop i l).symm;have e2:l.drop i=l.getD i 0::l.drop (i+1):=by
   rw[Q7 hl,QD,Q3 hl]
   rfl
  conv=>lhs;rw[e]
  rw[valL_append,e2,valL,QI,Nat.min_eq_left (Nat.le_of_lt hl)]
 rw[s la hla,s lb hlb,he];have h1:=val_lt (la.take i) (fun x hx=>ha x (List.mem_of_mem_take hx));rw[QI,Nat.min_eq_left (Nat.le_of_lt hla)] at h1;have h2:10000 ^ i*(la.getD i 0+1+10000*valL (lb.drop (i+1)))<=10000 ^ i*(lb.getD i 0+10000*valL (lb.drop (i+1))):=Nat.mul_le_mul_left _ (by omega);rw[show la.getD i 0+1+10000*valL (lb.drop (i+1))=(la.getD i 0+10000*valL (lb.drop (i+1)))+1 by omega,Nat.mul_add,Nat.mul_one] at h2;omega
theorem r1_below (a b:Nat) (va vb:Value) (hal:(digs a).length<=1000000) (hbl:(digs b).length<=1000000) (w:World) (h1:Row w va (digs a)) (h2:Row w vb (digs b)):Rt 158 #[va,vb] w (.bool (decide (a<b))):=by
 have hq:=zAl a;have hr:=zAl b;have hi:= @digs_more a b;have hj:= @digs_more b a;have hA:=zAs a;have hp:=zAs b;obtain⟨la,hv⟩:=lt_ (digs a);obtain⟨lb,hw⟩:=lt_ (digs b);rw[hv] at h1 hal hq hA hi hj;rw[hw] at h2 hbl hr hp hi hj;obtain⟨A,c,rfl,hc,hx⟩:=h1;obtain⟨B,d,rfl,hd,hy⟩:=h2;clear hv hw;by_cases hl:la.length=lb.length
 ·obtain⟨n,hn⟩:=lt_ la.length;have ht:lb.length=n:=by omega
  rw[hn] at hal hc hx;rw[ht] at hbl hd hy;rw[hn,ht];clear hl;have w0:QC.wrap ((n:Int)-1)=(n:Int)-1:=by rw[Q8];omega
  have HV:=zh (And.intro hq hr);obtain⟨R,hR⟩:=lt_ (decide (a<b));rw[hR];have HR:=zh hR;clear hq hr hi hj hR;have HN:=zh (And.intro hn ht);clear hn ht;go_enter func158,ntmps158;go_wp2
  go_loopw [5] (fun p wr=>∃ k:Nat,k<=n/\p=.int .i64 ((k:Int)-1)/\Below w.heap.size w wr/\RowKit.Hid (la.drop k=lb.drop k)) (fun p _=>(intOf p+1).toNat)
  case atStart=>exact⟨n,QB _,by go_num,bel,zh (by rw[QA (Nat.le_of_eq HN.out.1),QA (Nat.le_of_eq HN.out.2)])⟩
  case round =>
   obtain⟨k,hk,rfl,hB,hz⟩:=hrel;by_cases hk0:k=0
   ·subst hk0;have he:la=lb:=by simpa using hz.out
    have ho: ¬ a<b:=by rw[<- HV.out.1,<-HV.out.2,he];exact Nat.lt_irrefl _
    obtain rfl:R=false:=by rw[<- HR.out];exact decide_eq_false ho
    go_wp2;go_returns;exact rb_
   ·obtain⟨k,rfl⟩:∃ j,k=j+1:=⟨k-1,by omega⟩
    obtain⟨g,rfl,hg,hx⟩:=hx (by omega);obtain⟨g',rfl,hF,hy⟩:=hy (by omega);have hh:k<la.length:=by rw[HN.out.1];omega
    have ha:k<lb.length:=by rw[HN.out.2];omega
    have c1:=(hB.cell (p:=⟨g,k,none⟩) hg).trans (hx k (Q3 hh));have c2:=(hB.cell (p:=⟨g',k,none⟩) hF).trans (hy k (Q3 ha));have hm:=fun h=>val_word (i:=k) hA hh ha hz.out h;have hb:=fun h=>val_word (i:=k) hp ha hh hz.out.symm h;rw[QD,QD,Q3 hh,Q3 ha] at hm hb;have hs:la[k]=lb[k]->la.drop k=lb.drop k:=fun e=>by
     rw[Q7 hh,Q7 ha,e,hz.out]
    obtain⟨x,hC⟩:=lt_ (la[k]);obtain⟨y,hD⟩:=lt_ (lb[k]);rw[hC] at c1 hm hb hs;rw[hD] at c2 hm hb hs;simp only[Option.getD_some] at hm hb;have ek:((k+1:Nat):Int)-1=(k:Int):=by omega
    rw[ek];have w1:QC.wrap ((k:Int)-1)=(k:Int)-1:=by rw[Q8];omega
    have k0:(0:Int)<=(k:Int):=by omega
    have hu:=zh (And.intro hm hb);have hE:=zh hs;clear hm hb hs hC hD hx hy;clear hh ha;by_cases hxy:x=y
    ·subst hxy;go_wp2;go_quiet (fail);go_wp2;exact⟨⟨k,by omega,rfl,bel,zh (hE.out (by trivial))⟩,by simp[intOf]⟩
    ·have hG: ¬ (x:Int)=(y:Int):=by omega
     by_cases hlt:x<y
     ·have hf:(x:Int)<(y:Int):=by omega
      have ho:a<b:=by rw[<- HV.out.1,<-HV.out.2];exact hu.out.1 hlt
      obtain rfl:R=true:=by rw[<- HR.out];exact decide_eq_true ho
      go_wp2;go_quiet (fail);go_wp2;go_quiet (fail);go_wp2;go_returns;exact rb_
     ·have hf: ¬ (x:Int)<(y:Int):=by omega
      have ho: ¬ a<b:=by have:=hu.out.2 (by omega);rw[HV.out.1,HV.out.2] at this;omega
      obtain rfl:R=false:=by rw[<- HR.out];exact decide_eq_false ho
      go_wp2;go_quiet (fail);go_wp2;go_quiet (fail);go_wp2;go_returns;exact rb_
 ·have hlI: ¬ (la.length:Int)=(lb.length:Int):=by omega
  by_cases hlt:la.length<lb.length
  ·have:=hi hlt;rw[decide_eq_true this];have hf:(la.length:Int)<(lb.length:Int):=by omega
   clear this hq hr hi hj;go_enter func158,ntmps158;go_wp2;go_returns;exact rb_
  ·have:=hj (by omega);rw[decide_eq_false (by omega)];have hf: ¬ (la.length:Int)<(lb.length:Int):=by omega
   clear this hq hr hi hj;go_enter func158,ntmps158;go_wp2;go_returns;exact rb_
end Go.Proofs.YtnccknhbplaieaaGreatDoor
