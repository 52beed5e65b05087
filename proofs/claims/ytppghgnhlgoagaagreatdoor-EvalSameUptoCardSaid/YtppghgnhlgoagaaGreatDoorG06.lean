/- Parts. -/
import Derived.Test.YtppghgnhlgoagaaGreatDoorG04
import Derived.Test.YtppghgnhlgoagaaGreatDoorG05
import Derived.WalkSmall
import Derived.Laws.OwnMore
import Derived.Deep.DeepCutAuto
set_option linter.all false
set_option maxRecDepth 100000
set_option maxHeartbeats 4000000
namespace Go.Proofs.YtppghgnhlgoagaaGreatDoor
open Go Go.RowKit
theorem zA7 {w w1:World} {base e size n:Nat} {v:Value} {xs:List Value} (h:w.ownsRow base e size v n xs) (hb:Below w.heap.size w w1):w1.ownsRow base e size v n xs:=by
 refine⟨h.1,?_⟩
 rcases h.2 with h2|⟨g,cap,cur,e1,hg,hh,rest⟩
 ·exact .inl h2
 ·exact .inr ⟨g,cap,cur,e1,hg,(hb.block g (Array.getElem?_eq_some_iff.1 hh).1).trans hh,rest⟩
theorem zAf {w:World} {base e size n:Nat} {v:Value} {xs:List Value} (h:w.ownsRow base e size v n xs) (hn:0<n):∃ g c,v=.slice (some ⟨g,0,none⟩) n c/\n<=c/\c<=maxLen/\base<=g/\g<w.heap.size/\(∀ j u,xs[j]? =some u->w.cell? ⟨g,j,none⟩=some u)/\∀ j,w.frozen? ⟨g,j,none⟩=false:=by
 rcases h.2 with ⟨_,h2⟩|⟨g,cap,cur,e1,hg,hh,h1,h2,h3,h4⟩
 ·omega
 ·subst e1
  refine⟨g,cap,rfl,h1,h2,hg,(Array.getElem?_eq_some_iff.1 hh).1,fun j u hu=> ?_,fun j=>h.frozenAt j⟩
  have hj:j<xs.length:=(List.getElem?_eq_some_iff.1 hu).1
  rw[h.cellAt j (by rw[<- h.1];exact hj),hu]
theorem zBc {α:Type} {xs:List α} {k:Nat} {a:α} (h:xs[k]? =some a):xs.take (k+1)=xs.take k++[a]:=by
 rw[List.take_add_one,h]
 rfl
theorem zAJ {w:World} {cs:Array Value} {t:TypeId} {b:Nat} (hb:b=w.heap.size):∀ j u,cs.toList[j]? =some u->(w.alloc (.cells cs t)).cell? ((⟨b,0,none⟩:Addr).add j)=some u:=by
 subst hb
 intro j u hu
 have e:(⟨w.heap.size,0,none⟩:Addr).add j=⟨w.heap.size,j,none⟩:=by unfold Addr.add;split<;>simp_all
 rw[e,cell_of_row (w.alloc (.cells cs t)) w.heap.size j cs t (0,0) (heap_alloc_new w _)]
 simpa using hu
def zAE (w wr:World) (e:TypeId) (size:Nat) (v:Value) (k:Nat) (xs:List Value):Prop:=Below w.heap.size w wr/\wr.ownsRow w.heap.size e size v k xs
theorem zAE.step {w wr w2 w3:World} {e:TypeId} {size:Nat} {v v':Value} {k k':Nat} {xs ys:List Value} (h:zAE w wr e size v k xs) (hb:Below wr.heap.size wr w2)
  (ho:w3.ownsRow w.heap.size e size v' k' ys) (hg:w2.grownBy w3 v.ownBlock):zAE w w3 e size v' k' ys:=by
 obtain⟨h1,h3⟩:=h
 have hrow:∀ k,v.ownBlock=some k->w.heap.size<=k:=fun k hk=>(h3.lt k hk).1
 have s1:=h1.size
 have s2:=hb.size
 exact⟨(h1.trans (hb.mono (by omega))).grown hg (by omega) hrow,ho⟩
theorem zAE.below {w wr w2:World} {e:TypeId} {size:Nat} {v:Value} {k:Nat} {xs:List Value} (h:zAE w wr e size v k xs) (hb:Below wr.heap.size wr w2):zAE w w2 e size v k xs :=
 ⟨h.1.trans (hb.mono h.1.size),zA7 h.2 hb⟩
theorem zAE.pop {w wr:World} {e:TypeId} {size g cap n:Nat} {xs last:List Value} (hx:xs.length=n*size) (h:zAE w wr e size (.slice (some ⟨g,0,none⟩) (n+1) cap) (n+1) (xs++last)):zAE w wr e size (.slice (some ⟨g,0,none⟩) n cap) n xs :=
 ⟨h.1,ownsRow_pop hx h.2⟩
def zBi {α:Type} (f:α->List Value) (l:List α):List Value:=l.flatMap f
theorem zAC {α:Type} (f:α->List Value) (a b:List α):zBi f (a++b)=zBi f a++zBi f b:=by simp[zBi]
theorem zAD {α:Type} (f:α->List Value) (size:Nat) (hf:∀ x,(f x).length=size) (l:List α):(zBi f l).length=l.length*size:=by
 induction l with
 | nil=>simp[zBi]
 | cons a l ih =>
   have:zBi f (a::l)=f a++zBi f l:=by simp[zBi]
   rw[this,List.length_append,hf,ih,List.length_cons,Nat.add_mul]
   omega
theorem zA9 {α:Type} (f:α->List Value) (size:Nat) (hf:∀ x,(f x).length=size) (l:List α) (j:Nat) (x:α) (hx:l[j]? =some x) (i:Nat) (u:Value) (hu:(f x)[i]? =some u):(zBi f l)[j*size+i]? =some u:=by
 induction l generalizing j with
 | nil=>simp at hx
 | cons a l ih =>
   have e:zBi f (a::l)=f a++zBi f l:=by simp[zBi]
   rw[e]
   cases j with
   | zero =>
     simp only[List.getElem?_cons_zero,Option.some.injEq] at hx
     subst hx
     have hi:i<(f a).length:=(List.getElem?_eq_some_iff.1 hu).1
     rw[Nat.zero_mul,Nat.zero_add,List.getElem?_append_left hi]
     exact hu
   | succ j =>
     simp only[List.getElem?_cons_succ] at hx
     have h1:=ih j hx
     have h2:(j+1)*size+i=(f a).length+(j*size+i):=by rw[hf,Nat.add_mul];omega
     rw[h2,List.getElem?_append_right (by omega),Nat.add_sub_cancel_left]
     exact h1
def AtB (w:World) (p:Nat) (l:List Value):Prop:=∀ j u,l[j]? =some u->w.cell? ⟨p,j,none⟩=some u
theorem AtB.below {w w':World} {p:Nat} {l:List Value} (h:AtB w p l) (hb:Below w.heap.size w w'):AtB w' p l:=fun j u hu=>by
 have h1:=h j u hu
 have h2:=cltK h1
 exact(hb.cell (p:=⟨p,j,none⟩) (by simpa using h2)).trans h1
theorem cell_below {w w':World} {p j:Nat} {u:Value} (h:w.cell? ⟨p,j,none⟩=some u) (hb:Below w.heap.size w w'):w'.cell? ⟨p,j,none⟩=some u :=
 (hb.cell (p:=⟨p,j,none⟩) (by simpa using World.block_lt_of_cell? w _ h)).trans h
theorem AtB.new {w:World} {cs:Array Value} {t:TypeId} {p:Nat} (hp:p=w.heap.size):AtB (w.alloc (.cells cs t)) p cs.toList:=by
 subst hp
 intro j u hu
 rw[cell_of_row (w.alloc (.cells cs t)) w.heap.size j cs t (0,0) (heap_alloc_new w _)]
 simpa using hu
theorem AtB.zAv {w:World} {p:Nat} {l:List Value} (h:AtB w p l) (o:Obj):AtB (w.alloc o) p l:=fun j u hu=>(World.cell?_alloc_lt w _ _ (World.block_lt_of_cell? w _ (h j u hu))).trans (h j u hu)
theorem zA2 {w:World} {b i:Nat} {v:Value} (h:w.cell? ⟨b,i,none⟩=some v):b<w.heap.size:=World.block_lt_of_cell? w _ h
theorem zAB {w:World} {p i:Nat} {v:Value} (h:w.cell? ⟨p,i,none⟩=some v) (o:Obj):(w.alloc o).cell? ⟨p,i,none⟩=some v:=(World.cell?_alloc_lt w _ _ (World.block_lt_of_cell? w _ h)).trans h
theorem zAZ {w:World} {p i:Nat} {v:Value} (h:w.cell? ⟨p,i,none⟩=some v) (l:List Obj) (n:Nat):(more w l n).cell? ⟨p,i,none⟩=some v:=(zCC (World.block_lt_of_cell? w _ h)).trans h
theorem zAT {w:World} {p i:Nat} {v:Value} (h:w.cell? ⟨p,i,none⟩=some v):w.drew.cell? ⟨p,i,none⟩=some v:=h
theorem cell_drewNJ {w:World} {p i:Nat} {v:Value} (h:w.cell? ⟨p,i,none⟩=some v) (n:Nat):(w.drewN n).cell? ⟨p,i,none⟩=some v:=h
theorem zAF {w:World} {p i q j:Nat} {v u:Value} (h:w.cell? ⟨p,i,none⟩=some v) (hn:p≠q):(w.setCell ⟨q,j,none⟩ u).cell? ⟨p,i,none⟩=some v:=(World.cell?_setCell_other _ _ _ _ (by simp[hn])).trans h
def zAc (tp:Addr) (text:Int) (h:Value:=.nilIface):List Value:=[.pointer (some tp),.int .i64 text,h]
theorem eval_NewH (tp:Addr) (text:Int) (T:TypeId) (a:Addr) (h1:1<=text) (h2:text<=1024) (w:World):Calls Tryz.prog 7 #[.pointer (some tp),.int .i64 text,.iface T (.pointer (some a))] w fun e w'=>e=.returned (.pointer (some ⟨w.heap.size,0,none⟩))/\AtB w' w.heap.size (zAc tp text (.iface T (.pointer (some a))))/\Below w.heap.size w w':=by
 go_enter Tryz.func7,Tryz.ntmps7
 go_wp2
 go_ret
 exact⟨rfl,AtB.new rfl,bel⟩
theorem eval_New (tp:Addr) (text:Int) (h1:1<=text) (h2:text<=1024) (w:World):Calls Tryz.prog 7 #[.pointer (some tp),.int .i64 text,.nilIface] w fun e w'=>e=.returned (.pointer (some ⟨w.heap.size,0,none⟩))/\AtB w' w.heap.size (zAc tp text)/\Below w.heap.size w w':=by
 have h1': ¬ text<1:=by omega
 have h2': ¬ 1024<text:=by omega
 go_enter Tryz.func7,Tryz.ntmps7
 go_wp2
 go_ret
 exact⟨rfl,AtB.new rfl,bel⟩
theorem eval_number_ok (x:Int) (w:World):Rt 36 #[.int .i64 x,.int .i64 0] w (vG (numG x)):=by
 go_enter Tryz.func36,Tryz.ntmps36
 go_wp2_with(go_at_call 55;refine mB (zAq x _) ?_;intro l m)
 go_returns
 exact⟨rfl,bel⟩
def shortG (text:Int) (v:V):V:=if text<v.str.size then errG 7 else v
theorem eval_shortX (p:Nat) (tp:Addr) (text:Int) (h:Value) (v:V) (w:World) (hp:AtB w p (zAc tp text h)):Rt 22 #[.pointer (some ⟨p,0,none⟩),(vG v)] w (vG (shortG text v)):=by
 have p0:=hp 0 _ rfl
 have p1:=hp 1 _ rfl
 have p2:=hp 2 _ rfl
 have lp:=zA2 p0
 clear hp
 unfold shortG
 by_cases hv:text<(v.str.size:Int)
 ·rw[if_pos hv]
  go_enter Tryz.func22,Tryz.ntmps22
  go_wp2
  go_quiet (fail)
  all_goals go_wp2_with(go_at_call 21;refine mB (zA3 _ _) ?_;intro l m)
  all_goals go_returns
  all_goals exact⟨rfl,bel⟩
 ·rw[if_neg hv]
  have hv':(v.str.size:Int)<=text:=by omega
  clear hv
  go_enter Tryz.func22,Tryz.ntmps22
  go_wp2
  go_quiet (fail)
  all_goals go_wp2
  all_goals go_returns
  all_goals exact⟨rfl,bel⟩
open Go.Lib renaming hid->zh
theorem zAp (t l b r:Int) (w:World):Rt 71 #[.agg #[.int .i64 t,.int .i64 l,.int .i64 b,.int .i64 r]] w (.bool (rectB t l b r)):=by
 obtain⟨c1,h1⟩:∃ c,zCB t l=c:=⟨_,rfl⟩
 obtain⟨c2,h2⟩:∃ c,zCB b r=c:=⟨_,rfl⟩
 have H1:=zh h1
 have H2:=zh h2
 have e:rectB t l b r=((c1&&c2)&&(decide (t<=b)&&decide (l<=r))):=by unfold rectB;rw[h1,h2]
 rw[e]
 clear h1 h2 e
 cases c1<;>cases c2
 all_goals go_enter Tryz.func71,Tryz.ntmps71
 all_goals go_wp2_with(first|(go_at_call 100;refine mB (addr_first _ _ _ _ _) ?_;intro l1 n1)|(go_at_call 101;refine mB (addr_last _ _ _ _ _) ?_;intro l2 n2)|(go_at_call_of 78 (Value.agg #[.int .i64 t,.int .i64 l]);refine(addr_May t l _).mono ?_;rw[H1.out];rintro e w1 ⟨rfl,hb⟩;obtain⟨l3,n3,rfl⟩:=zA0 hb;clear hb)|(go_at_call_of 78 (Value.agg #[.int .i64 b,.int .i64 r]);refine(addr_May b r _).mono ?_;rw[H2.out];rintro e w1 ⟨rfl,hb⟩;obtain⟨l4,n4,rfl⟩:=zA0 hb;clear hb))
 all_goals go_returns
 all_goals refine⟨congrArg (fun b=>Ending.returned (Value.bool b)) ?_,bel⟩
 all_goals simp_all
 all_goals omega
structure En where
 row:Int
 col:Int
 v:V
def En.cells (e:En):List Value:=[.int .i64 e.row,.int .i64 e.col,.int .i64 e.v.tag,.int .i64 e.v.num,.string e.v.str,.bool e.v.is,.int .i64 e.v.code]
def zAg (t l b r:Int):Option En->List En->Bool
 | _,[]=>true
 | none,e::es=>(inB t l b r e.row e.col&&mayG e.v)&&zAg t l b r (some e) es
 | some p,e::es=>((inB t l b r e.row e.col&&mayG e.v)&&befB p.row p.col e.row e.col)&&zAg t l b r (some e) es
def zBo (a:Arg) (es:List En):Bool:=if a.many then (rectB a.top a.left a.bottom a.right&&eqB a.val ⟨0,0,⟨#[]⟩,false,0⟩)&&zAg a.top a.left a.bottom a.right none es
 else ((decide (a.top=0)&&decide (a.left=0))&&(decide (a.bottom=0)&&decide (a.right=0))&&decide (a.n=0))&&mayG a.val
theorem rectEq (t l b r:Int) (w:World):(binOp .eql 86 (.agg #[.int .i64 t,.int .i64 l,.int .i64 b,.int .i64 r]) (.agg #[.int .i64 0,.int .i64 0,.int .i64 0,.int .i64 0])).run Tryz.prog w=.ok (.bool ((decide (t=0)&&decide (l=0))&&(decide (b=0)&&decide (r=0)))) w:=by
 rw[run_eql_struct]
 go_simp
 by_cases h1:t=0<;>by_cases h2:l=0<;>by_cases h3:b=0<;>by_cases h4:r=0<;>simp_all
def zAt (w:World) (a:Arg) (es:List En):Prop:=es.length=a.n/\Reads w w.heap.size 7 a.ents a.n (zBi En.cells es)
theorem zAt.below {w w':World} {a:Arg} {es:List En} (h:zAt w a es) (hb:Below w.heap.size w w'):zAt w' a es:=⟨h.1,(h.2.below hb).lift hb.size⟩
def zBq (es:List En) (j:Nat):Option En:=if j=0 then none else es[j-1]?
theorem nums_may_one (a:Arg) (es:List En) (hm:a.many=false) (hE:es.length=a.n) (w:World):Rt 131 #[a.agg] w (.bool (zBo a es)):=by
 obtain⟨m,v,t,l,b,r,A,n,c⟩:=a
 simp only at hm hE
 subst hm
 have hq:=rectEq t l b r
 obtain⟨z,hz⟩:∃ z,((decide (t=0)&&decide (l=0))&&(decide (b=0)&&decide (r=0)))=z:=⟨_,rfl⟩
 have e:zBo ⟨false,v,t,l,b,r,A,n,c⟩ es=((z&&decide (n=0))&&mayG v):=by unfold zBo;rw[if_neg (show ¬ (false=true) by decide),<-hz]
 rw[e]
 rw[hz] at hq
 clear e hz hE
 unfold Arg.agg
 dsimp only
 cases z
 ·go_enter Tryz.func131,Tryz.ntmps131
  go_wp2
  all_goals go_returns
  all_goals exact⟨rfl,bel⟩
 ·by_cases hn:n=0
  ·have hn':((n:Nat):Int)=0:=by omega
   go_enter Tryz.func131,Tryz.ntmps131
   go_wp2_with(go_at_call 43;refine mB (zA8 _ _) ?_;intro l1 n1)
   all_goals go_returns
   all_goals exact⟨by simp[hn],bel⟩
  ·have hn': ¬ ((n:Nat):Int)=0:=by omega
   go_enter Tryz.func131,Tryz.ntmps131
   go_wp2_with(go_at_call 43;refine mB (zA8 _ _) ?_;intro l1 n1)
   all_goals go_returns
   all_goals exact⟨by simp[hn],bel⟩
theorem nums_may_many (a:Arg) (es:List En) (hm:a.many=true) (w:World) (hE:zAt w a es) (hn:a.n<=1000000000000):Rt 131 #[a.agg] w (.bool (zBo a es)):=by
 obtain⟨m,v,t,l,b,r,A,n,c⟩:=a
 obtain⟨hel,her⟩:=hE
 simp only at hm hel her hn
 subst hm
 have hq:=neqV v.tag v.num v.str v.is v.code 0 0 ⟨#[]⟩ false 0
 obtain⟨c1,h1⟩:∃ c,rectB t l b r=c:=⟨_,rfl⟩
 obtain⟨c2,h2⟩:∃ c,eqB v ⟨0,0,⟨#[]⟩,false,0⟩=c:=⟨_,rfl⟩
 obtain⟨R,h3⟩:∃ R,zAg t l b r none es=R:=⟨_,rfl⟩
 have e:zBo ⟨true,v,t,l,b,r,A,n,c⟩ es=((c1&&c2)&&R):=by unfold zBo;rw[if_pos rfl,h1,h3];rw[<- h2]
 rw[e]
 have hq2:eqB ⟨v.tag,v.num,v.str,v.is,v.code⟩ ⟨0,0,⟨#[]⟩,false,0⟩=c2:=h2
 rw[hq2] at hq
 have H1:=zh h1
 have H3:=zh h3
 have HE:=zh her
 have HL:=zh hel
 clear e h1 h2 h3 hel her hq2
 unfold Arg.agg
 dsimp only
 cases c1
 ·go_enter Tryz.func131,Tryz.ntmps131
  go_wp2_with(go_at_call 71;refine(zAp t l b r _).mono ?_;rw[H1.out];rintro e w1 ⟨rfl,hb⟩;obtain⟨l1,n1,rfl⟩:=zA0 hb;clear hb)
  all_goals go_returns
  all_goals exact⟨rfl,bel⟩
 ·cases c2
  ·go_enter Tryz.func131,Tryz.ntmps131
   go_wp2_with(go_at_call 71;refine(zAp t l b r _).mono ?_;rw[H1.out];rintro e w1 ⟨rfl,hb⟩;obtain⟨l1,n1,rfl⟩:=zA0 hb;clear hb)
   all_goals go_returns
   all_goals exact⟨rfl,bel⟩
  ·go_enter Tryz.func131,Tryz.ntmps131
   go_wp2_with(go_at_call 71;refine(zAp t l b r _).mono ?_;rw[H1.out];rintro e w1 ⟨rfl,hb⟩;obtain⟨l1,n1,rfl⟩:=zA0 hb;clear hb)
   go_loopw [36] (fun s wr=>∃ j:Nat,j<=n/\s=.int .i64 j/\Below (w.alloc (.cells #[.bool true,.int .i64 v.tag,.int .i64 v.num,.string v.str,.bool v.is,.int .i64 v.code,.int .i64 t,.int .i64 l,.int .i64 b,.int .i64 r,.slice A n c] 91)).heap.size (w.alloc (.cells #[.bool true,.int .i64 v.tag,.int .i64 v.num,.string v.str,.bool v.is,.int .i64 v.code,.int .i64 t,.int .i64 l,.int .i64 b,.int .i64 r,.slice A n c] 91)) wr/\zAg t l b r (zBq es j) (es.drop j)=R) (fun s _=>n-(intOf s).toNat)
   case atStart=>exact⟨0,Nat.zero_le _,rfl,bel,H3.out⟩
   case round =>
    obtain⟨j,hj,rfl,hB,hR⟩:=hrel
    have HBX:=zh hB
    have hB2:Below w.heap.size w wr:=(show Below w.heap.size w (w.alloc _) from bel).trans (hB.mono (by simp))
    have HB:=zh hB2
    have hsz:=hB2.size
    have hszx:=hB.size
    have hszy:w.heap.size<wr.heap.size:=by simp at hszx;omega
    have pc:∀ i u,(#[Value.bool true,.int .i64 v.tag,.int .i64 v.num,.string v.str,.bool v.is,.int .i64 v.code,.int .i64 t,.int .i64 l,.int .i64 b,.int .i64 r,.slice A n c]:Array Value).toList[i]? =some u->wr.cell? ⟨w.heap.size,i,none⟩=some u:=fun i u hu=>((AtB.new (w:=w) (t:=91) rfl).below hB) i u hu
    have p6:=pc 6 _ rfl
    have p7:=pc 7 _ rfl
    have p8:=pc 8 _ rfl
    have p9:=pc 9 _ rfl
    have p10:=pc 10 _ rfl
    clear pc hB hB2
    by_cases hlt:j<n
    ·obtain⟨bk,off,rfl,hbl,hc⟩:=HE.out.2 (by omega)
     obtain⟨x,hx⟩:∃ x,es[j]? =some x:=⟨_,List.getElem?_eq_getElem (show j<es.length by have:=HL.out;omega)⟩
     have hd:es.drop j=x::es.drop (j+1):=by
      obtain⟨hm,hv⟩:=List.getElem?_eq_some_iff.1 hx
      rw[List.drop_eq_getElem_cons hm,hv]
     have hcell:∀ (k:Nat) (y:En),es[k]? =some y->∀ i u,y.cells[i]? =some u->wr.cell? ⟨bk,off+(k*7+i),none⟩=some u:=fun k y hy i u hu=>by
      have h1:=hc _ u (zA9 En.cells 7 (fun _=>rfl) es k y hy i u hu)
      exact(HB.out.cell (p:=⟨bk,_,none⟩) (World.block_lt_of_cell? w _ h1)).trans h1
     have hbr:bk<wr.heap.size:=by omega
     have x0:=hcell j x hx 0 _ rfl
     have x1:=hcell j x hx 1 _ rfl
     have x2:=hcell j x hx 2 _ rfl
     have x3:=hcell j x hx 3 _ rfl
     have x4:=hcell j x hx 4 _ rfl
     have x5:=hcell j x hx 5 _ rfl
     have x6:=hcell j x hx 6 _ rfl
     simp only[<- Nat.add_assoc,Nat.add_zero] at x0 x1 x2 x3 x4 x5 x6
     have fx:∀ i u,x.cells[i]? =some u->(wr.alloc (.cells #[.int .i64 x.row,.int .i64 x.col,.int .i64 x.v.tag,.int .i64 x.v.num,.string x.v.str,.bool x.v.is,.int .i64 x.v.code] 57)).cell? ⟨wr.heap.size,i,none⟩=some u:=fun i u hu=>(AtB.new rfl) i u hu
     have f0:=fx 0 _ rfl
     have f1:=fx 1 _ rfl
     have f2:=fx 2 _ rfl
     have f3:=fx 3 _ rfl
     have f4:=fx 4 _ rfl
     have f5:=fx 5 _ rfl
     have f6:=fx 6 _ rfl
     clear fx
     rw[hd] at hR
     have hpv:zBq es (j+1)=some x:=by unfold zBq;rw[if_neg (by omega)];exact hx
     obtain⟨b1,hb1⟩:∃ b1,inB t l b r x.row x.col=b1:=⟨_,rfl⟩
     obtain⟨b2,hb2⟩:∃ b2,mayG x.v=b2:=⟨_,rfl⟩
     have HI:=zh hb1
     have HV:=zh hb2
     rcases Nat.eq_zero_or_pos j with h0|h0
     ·have hpj:zBq es j=none:=by unfold zBq;rw[if_pos h0]
      rw[hpj] at hR
      have hR':((b1&&b2)&&zAg t l b r (some x) (es.drop (j+1)))=R:=by rw[<- hb1,<-hb2];exact hR
      have HJ0:=zh h0
      clear h0 hpj
      clear hR hb1 hb2 hc hcell hd hx
      rw[<- hpv] at hR'
      clear hpv
      cases b1
      ·have HRR:=zh (show R=false from by rw[<- hR'];rfl)
       clear hR'
       go_upto_region 8 with fail
       (refine qmI ?_;(repeat(go_big_quiet_step (first|(go_at_call 72;have h:=zAh t l b r x.row x.col;rw[HI.out] at h;exact Calls.zA6 (h _)))));refine qmE ?_;intro lq nq)
       all_goals go_wp2
       all_goals go_returns
       all_goals exact⟨by rw[HRR.out];rfl,HB.out.trans ((show Below wr.heap.size wr _ from bel).mono hsz)⟩
      ·cases b2
       ·have HRR:=zh (show R=false from by rw[<- hR'];rfl)
        clear hR'
        go_upto_region 8 with fail
        (refine qmI ?_;(repeat(go_big_quiet_step (first|(go_at_call 72;have h:=zAh t l b r x.row x.col;rw[HI.out] at h;exact Calls.zA6 (h _))|(go_at_call 43;have h:=zA8 x.v;rw[HV.out] at h;exact Calls.zA6 (h _)))));refine qmE ?_;intro lq nq)
        all_goals go_wp2
        all_goals go_returns
        all_goals exact⟨by rw[HRR.out];rfl,HB.out.trans ((show Below wr.heap.size wr _ from bel).mono hsz)⟩
       ·have HRR:=zh (show zAg t l b r (zBq es (j+1)) (es.drop (j+1))=R from by rw[<- hR'];rfl)
        clear hR'
        go_upto_region 8 with fail
        have hj2:((j:Nat):Int)=0:=by have:=HJ0.out;omega
        (refine qmI ?_;(repeat(go_big_quiet_step (first|(go_at_call 72;have h:=zAh t l b r x.row x.col;rw[HI.out] at h;exact Calls.zA6 (h _))|(go_at_call 43;have h:=zA8 x.v;rw[HV.out] at h;exact Calls.zA6 (h _)))));refine qmE ?_;intro lq nq)
        all_goals go_wp2
        all_goals exact⟨⟨j+1,by omega,by go_num,HBX.out.trans ((show Below wr.heap.size wr _ from bel).mono hszx),HRR.out⟩,by simp[intOf];omega⟩
     ·obtain⟨i,hi⟩:∃ i,j=i+1:=⟨j-1,by omega⟩
      obtain⟨y,hy⟩:∃ y,es[i]? =some y:=⟨_,List.getElem?_eq_getElem (show i<es.length by have:=HL.out;omega)⟩
      have y0:=hcell i y hy 0 _ rfl
      have y1:=hcell i y hy 1 _ rfl
      simp only[<- Nat.add_assoc,Nat.add_zero] at y0 y1
      have hpj:zBq es j=some y:=by unfold zBq;rw[if_neg (by omega),hi];exact hy
      obtain⟨b3,hb3⟩:∃ b3,befB y.row y.col x.row x.col=b3:=⟨_,rfl⟩
      have HF:=zh hb3
      rw[hpj] at hR
      have hR':(((b1&&b2)&&b3)&&zAg t l b r (some x) (es.drop (j+1)))=R:=by rw[<- hb1,<-hb2,<-hb3];exact hR
      have hji:((j:Nat):Int)-1=(i:Int):=by omega
      have hj1:(0:Int)<(j:Int):=by omega
      clear hR hb1 hb2 hb3 hc hcell hd hx hy hpj hi
      rw[<- hpv] at hR'
      clear hpv
      cases b1
      ·have HRR:=zh (show R=false from by rw[<- hR'];rfl)
       clear hR'
       go_upto_region 8 with fail
       (refine qmI ?_;(repeat(go_big_quiet_step (first|(go_at_call 72;have h:=zAh t l b r x.row x.col;rw[HI.out] at h;exact Calls.zA6 (h _)))));refine qmE ?_;intro lq nq)
       all_goals go_wp2
       all_goals go_returns
       all_goals exact⟨by rw[HRR.out];rfl,HB.out.trans ((show Below wr.heap.size wr _ from bel).mono hsz)⟩
      ·cases b2
       ·have HRR:=zh (show R=false from by rw[<- hR'];rfl)
        clear hR'
        go_upto_region 8 with fail
        (refine qmI ?_;(repeat(go_big_quiet_step (first|(go_at_call 72;have h:=zAh t l b r x.row x.col;rw[HI.out] at h;exact Calls.zA6 (h _))|(go_at_call 43;have h:=zA8 x.v;rw[HV.out] at h;exact Calls.zA6 (h _)))));refine qmE ?_;intro lq nq)
        all_goals go_wp2
        all_goals go_returns
        all_goals exact⟨by rw[HRR.out];rfl,HB.out.trans ((show Below wr.heap.size wr _ from bel).mono hsz)⟩
       ·cases b3
        ·have HRR:=zh (show R=false from by rw[<- hR'];rfl)
         clear hR'
         go_upto_region 8 with fail
         (refine qmI ?_;(repeat(go_big_quiet_step (first|(go_at_call 72;have h:=zAh t l b r x.row x.col;rw[HI.out] at h;exact Calls.zA6 (h _))|(go_at_call 43;have h:=zA8 x.v;rw[HV.out] at h;exact Calls.zA6 (h _))|(go_at_call 73;have h:=zBb y.row y.col x.row x.col;rw[HF.out] at h;exact Calls.zA6 (h _)))));refine qmE ?_;intro lq nq)
         all_goals go_wp2
         all_goals go_returns
         all_goals exact⟨by rw[HRR.out];rfl,HB.out.trans ((show Below wr.heap.size wr _ from bel).mono hsz)⟩
        ·have HRR:=zh (show zAg t l b r (zBq es (j+1)) (es.drop (j+1))=R from by rw[<- hR'];rfl)
         clear hR'
         go_upto_region 8 with fail
         (refine qmI ?_;(repeat(go_big_quiet_step (first|(go_at_call 72;have h:=zAh t l b r x.row x.col;rw[HI.out] at h;exact Calls.zA6 (h _))|(go_at_call 43;have h:=zA8 x.v;rw[HV.out] at h;exact Calls.zA6 (h _))|(go_at_call 73;have h:=zBb y.row y.col x.row x.col;rw[HF.out] at h;exact Calls.zA6 (h _)))));refine qmE ?_;intro lq nq)
         all_goals go_wp2
         all_goals exact⟨⟨j+1,by omega,by go_num,HBX.out.trans ((show Below wr.heap.size wr _ from bel).mono hszx),HRR.out⟩,by simp[intOf];omega⟩
    ·obtain rfl:j=n:=by omega
     rw[List.drop_of_length_le (by have:=HL.out;omega)] at hR
     have hR2:R=true:=by rw[<- hR];unfold zAg;rfl
     have HRR:=zh hR2
     clear hR hR2 HE
     go_wp2
     go_returns
     exact⟨by rw[HRR.out];rfl,HB.out⟩
theorem nums_may (a:Arg) (es:List En) (w:World) (hE:zAt w a es) (hn:a.n<=1000000000000):Rt 131 #[a.agg] w (.bool (zBo a es)):=by
 cases hm:a.many
 ·exact nums_may_one a es hm hE.1 w
 ·exact nums_may_many a es hm w hE hn
theorem ref03_within (x l m:Int) (w:World):Rt 49 #[.int .i64 x,.int .i64 l,.int .i64 m] w (.bool (decide (l<=x)&&decide (x<=m))):=by
 go_enter Tryz.func49,Tryz.ntmps49
 go_wp2
 all_goals go_ret
 all_goals refine⟨congrArg (fun b=>Ending.returned (Value.bool b)) ?_,bel⟩
 all_goals simp_all
 all_goals omega
theorem ref03_May (r c:Int) (w:World):Rt 31 #[.agg #[.int .i64 r,.int .i64 c]] w (.bool (zCB r c)):=by
 go_enter Tryz.func31,Tryz.ntmps31
 go_wp2_with(go_at_call 49;refine mB (ref03_within _ _ _ _) ?_;intro l1 n1)
 all_goals go_returns
 all_goals refine⟨congrArg (fun b=>Ending.returned (Value.bool b)) (?_:_=zCB _ _),bel⟩
 all_goals simp_all[zCB]
 all_goals omega
theorem ref03_MayRect (t l b r:Int) (w:World):Rt 74 #[.agg #[.int .i64 t,.int .i64 l,.int .i64 b,.int .i64 r]] w (.bool (rectB t l b r)):=by
 obtain⟨c1,h1⟩:∃ c,zCB t l=c:=⟨_,rfl⟩
 obtain⟨c2,h2⟩:∃ c,zCB b r=c:=⟨_,rfl⟩
 have H1:=zh h1
 have H2:=zh h2
 have e:rectB t l b r=((c1&&c2)&&(decide (t<=b)&&decide (l<=r))):=by unfold rectB;rw[h1,h2]
 rw[e]
 clear h1 h2 e
 cases c1<;>cases c2
 all_goals go_enter Tryz.func74,Tryz.ntmps74
 all_goals go_wp2_with(first|(go_at_call_of 31 (Value.agg #[.int .i64 t,.int .i64 l]);refine(ref03_May t l _).mono ?_;rw[H1.out];rintro e w1 ⟨rfl,hb⟩;obtain⟨l3,n3,rfl⟩:=zA0 hb;clear hb)|(go_at_call_of 31 (Value.agg #[.int .i64 b,.int .i64 r]);refine(ref03_May b r _).mono ?_;rw[H2.out];rintro e w1 ⟨rfl,hb⟩;obtain⟨l4,n4,rfl⟩:=zA0 hb;clear hb))
 all_goals go_returns
 all_goals refine⟨congrArg (fun b=>Ending.returned (Value.bool b)) ?_,bel⟩
 all_goals simp_all
 all_goals omega
theorem ref03_In (t l b r row col:Int) (w:World):Rt 30 #[.agg #[.int .i64 t,.int .i64 l,.int .i64 b,.int .i64 r],.agg #[.int .i64 row,.int .i64 col]] w (.bool (inB t l b r row col)):=by
 go_enter Tryz.func30,Tryz.ntmps30
 go_wp2_with(go_at_call 49;refine mB (ref03_within _ _ _ _) ?_;intro l1 n1)
 all_goals go_returns
 all_goals refine⟨congrArg (fun b=>Ending.returned (Value.bool b)) (?_:_=inB _ _ _ _ _ _),bel⟩
 all_goals simp_all[inB]
 all_goals omega
theorem ref03_Before (r c r' c':Int) (w:World):Rt 32 #[.agg #[.int .i64 r,.int .i64 c],.agg #[.int .i64 r',.int .i64 c']] w (.bool (befB r c r' c')):=by
 go_enter Tryz.func32,Tryz.ntmps32
 go_wp2
 all_goals go_ret
 all_goals refine⟨congrArg (fun b=>Ending.returned (Value.bool b)) (?_:_=befB _ _ _ _),bel⟩
 all_goals simp_all[befB]
 all_goals omega
theorem funcs_may_one (a:Arg) (es:List En) (hm:a.many=false) (hE:es.length=a.n) (w:World):Rt 45 #[a.agg] w (.bool (zBo a es)):=by
 obtain⟨m,v,t,l,b,r,A,n,c⟩:=a
 simp only at hm hE
 subst hm
 have hq:=rectEq t l b r
 obtain⟨z,hz⟩:∃ z,((decide (t=0)&&decide (l=0))&&(decide (b=0)&&decide (r=0)))=z:=⟨_,rfl⟩
 have e:zBo ⟨false,v,t,l,b,r,A,n,c⟩ es=((z&&decide (n=0))&&mayG v):=by unfold zBo;rw[if_neg (show ¬ (false=true) by decide),<-hz]
 rw[e]
 rw[hz] at hq
 clear e hz hE
 unfold Arg.agg
 dsimp only
 cases z
 ·go_enter Tryz.func45,Tryz.ntmps45
  go_wp2
  all_goals go_returns
  all_goals exact⟨rfl,bel⟩
 ·by_cases hn:n=0
  ·have hn':((n:Nat):Int)=0:=by omega
   go_enter Tryz.func45,Tryz.ntmps45
   go_wp2_with(go_at_call 43;refine mB (zA8 _ _) ?_;intro l1 n1)
   all_goals go_returns
   all_goals exact⟨by simp[hn],bel⟩
  ·have hn': ¬ ((n:Nat):Int)=0:=by omega
   go_enter Tryz.func45,Tryz.ntmps45
   go_wp2_with(go_at_call 43;refine mB (zA8 _ _) ?_;intro l1 n1)
   all_goals go_returns
   all_goals exact⟨by simp[hn],bel⟩
theorem funcs_may_many (a:Arg) (es:List En) (hm:a.many=true) (w:World) (hE:zAt w a es) (hn:a.n<=1000000000000):Rt 45 #[a.agg] w (.bool (zBo a es)):=by
 obtain⟨m,v,t,l,b,r,A,n,c⟩:=a
 obtain⟨hel,her⟩:=hE
 simp only at hm hel her hn
 subst hm
 have hq:=neqV v.tag v.num v.str v.is v.code 0 0 ⟨#[]⟩ false 0
 obtain⟨c1,h1⟩:∃ c,rectB t l b r=c:=⟨_,rfl⟩
 obtain⟨c2,h2⟩:∃ c,eqB v ⟨0,0,⟨#[]⟩,false,0⟩=c:=⟨_,rfl⟩
 obtain⟨R,h3⟩:∃ R,zAg t l b r none es=R:=⟨_,rfl⟩
 have e:zBo ⟨true,v,t,l,b,r,A,n,c⟩ es=((c1&&c2)&&R):=by unfold zBo;rw[if_pos rfl,h1,h3];rw[<- h2]
 rw[e]
 have hq2:eqB ⟨v.tag,v.num,v.str,v.is,v.code⟩ ⟨0,0,⟨#[]⟩,false,0⟩=c2:=h2
 rw[hq2] at hq
 have H1:=zh h1
 have H3:=zh h3
 have HE:=zh her
 have HL:=zh hel
 clear e h1 h2 h3 hel her hq2
 unfold Arg.agg
 dsimp only
 cases c1
 ·go_enter Tryz.func45,Tryz.ntmps45
  go_wp2_with(go_at_call 71;refine(zAp t l b r _).mono ?_;rw[H1.out];rintro e w1 ⟨rfl,hb⟩;obtain⟨l1,n1,rfl⟩:=zA0 hb;clear hb)
  all_goals go_returns
  all_goals exact⟨rfl,bel⟩
 ·cases c2
  ·go_enter Tryz.func45,Tryz.ntmps45
   go_wp2_with(go_at_call 71;refine(zAp t l b r _).mono ?_;rw[H1.out];rintro e w1 ⟨rfl,hb⟩;obtain⟨l1,n1,rfl⟩:=zA0 hb;clear hb)
   all_goals go_returns
   all_goals exact⟨rfl,bel⟩
  ·go_enter Tryz.func45,Tryz.ntmps45
   go_wp2_with(go_at_call 71;refine(zAp t l b r _).mono ?_;rw[H1.out];rintro e w1 ⟨rfl,hb⟩;obtain⟨l1,n1,rfl⟩:=zA0 hb;clear hb)
   go_loopw [36] (fun s wr=>∃ j:Nat,j<=n/\s=.int .i64 j/\Below (w.alloc (.cells #[.bool true,.int .i64 v.tag,.int .i64 v.num,.string v.str,.bool v.is,.int .i64 v.code,.int .i64 t,.int .i64 l,.int .i64 b,.int .i64 r,.slice A n c] 91)).heap.size (w.alloc (.cells #[.bool true,.int .i64 v.tag,.int .i64 v.num,.string v.str,.bool v.is,.int .i64 v.code,.int .i64 t,.int .i64 l,.int .i64 b,.int .i64 r,.slice A n c] 91)) wr/\zAg t l b r (zBq es j) (es.drop j)=R) (fun s _=>n-(intOf s).toNat)
   case atStart=>exact⟨0,Nat.zero_le _,rfl,bel,H3.out⟩
   case round =>
    obtain⟨j,hj,rfl,hB,hR⟩:=hrel
    have HBX:=zh hB
    have hB2:Below w.heap.size w wr:=(show Below w.heap.size w (w.alloc _) from bel).trans (hB.mono (by simp))
    have HB:=zh hB2
    have hsz:=hB2.size
    have hszx:=hB.size
    have hszy:w.heap.size<wr.heap.size:=by simp at hszx;omega
    have pc:∀ i u,(#[Value.bool true,.int .i64 v.tag,.int .i64 v.num,.string v.str,.bool v.is,.int .i64 v.code,.int .i64 t,.int .i64 l,.int .i64 b,.int .i64 r,.slice A n c]:Array Value).toList[i]? =some u->wr.cell? ⟨w.heap.size,i,none⟩=some u:=fun i u hu=>((AtB.new (w:=w) (t:=91) rfl).below hB) i u hu
    have p6:=pc 6 _ rfl
    have p7:=pc 7 _ rfl
    have p8:=pc 8 _ rfl
    have p9:=pc 9 _ rfl
    have p10:=pc 10 _ rfl
    clear pc hB hB2
    by_cases hlt:j<n
    ·obtain⟨bk,off,rfl,hbl,hc⟩:=HE.out.2 (by omega)
     obtain⟨x,hx⟩:∃ x,es[j]? =some x:=⟨_,List.getElem?_eq_getElem (show j<es.length by have:=HL.out;omega)⟩
     have hd:es.drop j=x::es.drop (j+1):=by
      obtain⟨hm,hv⟩:=List.getElem?_eq_some_iff.1 hx
      rw[List.drop_eq_getElem_cons hm,hv]
     have hcell:∀ (k:Nat) (y:En),es[k]? =some y->∀ i u,y.cells[i]? =some u->wr.cell? ⟨bk,off+(k*7+i),none⟩=some u:=fun k y hy i u hu=>by
      have h1:=hc _ u (zA9 En.cells 7 (fun _=>rfl) es k y hy i u hu)
      exact(HB.out.cell (p:=⟨bk,_,none⟩) (World.block_lt_of_cell? w _ h1)).trans h1
     have hbr:bk<wr.heap.size:=by omega
     have x0:=hcell j x hx 0 _ rfl
     have x1:=hcell j x hx 1 _ rfl
     have x2:=hcell j x hx 2 _ rfl
     have x3:=hcell j x hx 3 _ rfl
     have x4:=hcell j x hx 4 _ rfl
     have x5:=hcell j x hx 5 _ rfl
     have x6:=hcell j x hx 6 _ rfl
     simp only[<- Nat.add_assoc,Nat.add_zero] at x0 x1 x2 x3 x4 x5 x6
     have fx:∀ i u,x.cells[i]? =some u->(wr.alloc (.cells #[.int .i64 x.row,.int .i64 x.col,.int .i64 x.v.tag,.int .i64 x.v.num,.string x.v.str,.bool x.v.is,.int .i64 x.v.code] 57)).cell? ⟨wr.heap.size,i,none⟩=some u:=fun i u hu=>(AtB.new rfl) i u hu
     have f0:=fx 0 _ rfl
     have f1:=fx 1 _ rfl
     have f2:=fx 2 _ rfl
     have f3:=fx 3 _ rfl
     have f4:=fx 4 _ rfl
     have f5:=fx 5 _ rfl
     have f6:=fx 6 _ rfl
     clear fx
     rw[hd] at hR
     have hpv:zBq es (j+1)=some x:=by unfold zBq;rw[if_neg (by omega)];exact hx
     obtain⟨b1,hb1⟩:∃ b1,inB t l b r x.row x.col=b1:=⟨_,rfl⟩
     obtain⟨b2,hb2⟩:∃ b2,mayG x.v=b2:=⟨_,rfl⟩
     have HI:=zh hb1
     have HV:=zh hb2
     rcases Nat.eq_zero_or_pos j with h0|h0
     ·have hpj:zBq es j=none:=by unfold zBq;rw[if_pos h0]
      rw[hpj] at hR
      have hR':((b1&&b2)&&zAg t l b r (some x) (es.drop (j+1)))=R:=by rw[<- hb1,<-hb2];exact hR
      have HJ0:=zh h0
      clear h0 hpj
      clear hR hb1 hb2 hc hcell hd hx
      rw[<- hpv] at hR'
      clear hpv
      cases b1
      ·have HRR:=zh (show R=false from by rw[<- hR'];rfl)
       clear hR'
       go_upto_region 8 with fail
       (refine qmI ?_;(repeat(go_big_quiet_step (first|(go_at_call 72;have h:=zAh t l b r x.row x.col;rw[HI.out] at h;exact Calls.zA6 (h _)))));refine qmE ?_;intro lq nq)
       all_goals go_wp2
       all_goals go_returns
       all_goals exact⟨by rw[HRR.out];rfl,HB.out.trans ((show Below wr.heap.size wr _ from bel).mono hsz)⟩
      ·cases b2
       ·have HRR:=zh (show R=false from by rw[<- hR'];rfl)
        clear hR'
        go_upto_region 8 with fail
        (refine qmI ?_;(repeat(go_big_quiet_step (first|(go_at_call 72;have h:=zAh t l b r x.row x.col;rw[HI.out] at h;exact Calls.zA6 (h _))|(go_at_call 43;have h:=zA8 x.v;rw[HV.out] at h;exact Calls.zA6 (h _)))));refine qmE ?_;intro lq nq)
        all_goals go_wp2
        all_goals go_returns
        all_goals exact⟨by rw[HRR.out];rfl,HB.out.trans ((show Below wr.heap.size wr _ from bel).mono hsz)⟩
       ·have HRR:=zh (show zAg t l b r (zBq es (j+1)) (es.drop (j+1))=R from by rw[<- hR'];rfl)
        clear hR'
        go_upto_region 8 with fail
        have hj2:((j:Nat):Int)=0:=by have:=HJ0.out;omega
        (refine qmI ?_;(repeat(go_big_quiet_step (first|(go_at_call 72;have h:=zAh t l b r x.row x.col;rw[HI.out] at h;exact Calls.zA6 (h _))|(go_at_call 43;have h:=zA8 x.v;rw[HV.out] at h;exact Calls.zA6 (h _)))));refine qmE ?_;intro lq nq)
        all_goals go_wp2
        all_goals exact⟨⟨j+1,by omega,by go_num,HBX.out.trans ((show Below wr.heap.size wr _ from bel).mono hszx),HRR.out⟩,by simp[intOf];omega⟩
     ·obtain⟨i,hi⟩:∃ i,j=i+1:=⟨j-1,by omega⟩
      obtain⟨y,hy⟩:∃ y,es[i]? =some y:=⟨_,List.getElem?_eq_getElem (show i<es.length by have:=HL.out;omega)⟩
      have y0:=hcell i y hy 0 _ rfl
      have y1:=hcell i y hy 1 _ rfl
      simp only[<- Nat.add_assoc,Nat.add_zero] at y0 y1
      have hpj:zBq es j=some y:=by unfold zBq;rw[if_neg (by omega),hi];exact hy
      obtain⟨b3,hb3⟩:∃ b3,befB y.row y.col x.row x.col=b3:=⟨_,rfl⟩
      have HF:=zh hb3
      rw[hpj] at hR
      have hR':(((b1&&b2)&&b3)&&zAg t l b r (some x) (es.drop (j+1)))=R:=by rw[<- hb1,<-hb2,<-hb3];exact hR
      have hji:((j:Nat):Int)-1=(i:Int):=by omega
      have hj1:(0:Int)<(j:Int):=by omega
      clear hR hb1 hb2 hb3 hc hcell hd hx hy hpj hi
      rw[<- hpv] at hR'
      clear hpv
      cases b1
      ·have HRR:=zh (show R=false from by rw[<- hR'];rfl)
       clear hR'
       go_upto_region 8 with fail
       (refine qmI ?_;(repeat(go_big_quiet_step (first|(go_at_call 72;have h:=zAh t l b r x.row x.col;rw[HI.out] at h;exact Calls.zA6 (h _)))));refine qmE ?_;intro lq nq)
       all_goals go_wp2
       all_goals go_returns
       all_goals exact⟨by rw[HRR.out];rfl,HB.out.trans ((show Below wr.heap.size wr _ from bel).mono hsz)⟩
      ·cases b2
       ·have HRR:=zh (show R=false from by rw[<- hR'];rfl)
        clear hR'
        go_upto_region 8 with fail
        (refine qmI ?_;(repeat(go_big_quiet_step (first|(go_at_call 72;have h:=zAh t l b r x.row x.col;rw[HI.out] at h;exact Calls.zA6 (h _))|(go_at_call 43;have h:=zA8 x.v;rw[HV.out] at h;exact Calls.zA6 (h _)))));refine qmE ?_;intro lq nq)
        all_goals go_wp2
        all_goals go_returns
        all_goals exact⟨by rw[HRR.out];rfl,HB.out.trans ((show Below wr.heap.size wr _ from bel).mono hsz)⟩
       ·cases b3
        ·have HRR:=zh (show R=false from by rw[<- hR'];rfl)
         clear hR'
         go_upto_region 8 with fail
         (refine qmI ?_;(repeat(go_big_quiet_step (first|(go_at_call 72;have h:=zAh t l b r x.row x.col;rw[HI.out] at h;exact Calls.zA6 (h _))|(go_at_call 43;have h:=zA8 x.v;rw[HV.out] at h;exact Calls.zA6 (h _))|(go_at_call 73;have h:=zBb y.row y.col x.row x.col;rw[HF.out] at h;exact Calls.zA6 (h _)))));refine qmE ?_;intro lq nq)
         all_goals go_wp2
         all_goals go_returns
         all_goals exact⟨by rw[HRR.out];rfl,HB.out.trans ((show Below wr.heap.size wr _ from bel).mono hsz)⟩
        ·have HRR:=zh (show zAg t l b r (zBq es (j+1)) (es.drop (j+1))=R from by rw[<- hR'];rfl)
         clear hR'
         go_upto_region 8 with fail
         (refine qmI ?_;(repeat(go_big_quiet_step (first|(go_at_call 72;have h:=zAh t l b r x.row x.col;rw[HI.out] at h;exact Calls.zA6 (h _))|(go_at_call 43;have h:=zA8 x.v;rw[HV.out] at h;exact Calls.zA6 (h _))|(go_at_call 73;have h:=zBb y.row y.col x.row x.col;rw[HF.out] at h;exact Calls.zA6 (h _)))));refine qmE ?_;intro lq nq)
         all_goals go_wp2
         all_goals exact⟨⟨j+1,by omega,by go_num,HBX.out.trans ((show Below wr.heap.size wr _ from bel).mono hszx),HRR.out⟩,by simp[intOf];omega⟩
    ·obtain rfl:j=n:=by omega
     rw[List.drop_of_length_le (by have:=HL.out;omega)] at hR
     have hR2:R=true:=by rw[<- hR];unfold zAg;rfl
     have HRR:=zh hR2
     clear hR hR2 HE
     go_wp2
     go_returns
     exact⟨by rw[HRR.out];rfl,HB.out⟩
theorem funcs_may (a:Arg) (es:List En) (w:World) (hE:zAt w a es) (hn:a.n<=1000000000000):Rt 45 #[a.agg] w (.bool (zBo a es)):=by
 cases hm:a.many
 ·exact funcs_may_one a es hm hE.1 w
 ·exact funcs_may_many a es hm w hE hn
end Go.Proofs.YtppghgnhlgoagaaGreatDoor
