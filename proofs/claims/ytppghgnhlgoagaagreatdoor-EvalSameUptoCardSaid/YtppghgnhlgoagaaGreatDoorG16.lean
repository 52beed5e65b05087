/- Parts. -/
import Derived.Test.YtppghgnhlgoagaaGreatDoorG15
import Derived.Laws.Externs
set_option linter.all false
set_option maxRecDepth 100000
set_option maxHeartbeats 4000000
namespace Go.Proofs.YtppghgnhlgoagaaGreatDoor
open Go Go.RowKit
open Go.Lib renaming hid->zh
def U (l:List Nat):List Value:=l.map fun n=>.int .u64 ((n:Nat):Int)
theorem add64 (x y:Nat) (w:World):(callFunc 267 #[.int .u64 ((x:Nat):Int),.int .u64 ((y:Nat):Int),.int .u64 0]).run Tryz.prog w=.ok (.value (.tuple #[.int .u64 (((x+y) % 18446744073709551616:Nat):Int),.int .u64 (((x+y) / 18446744073709551616:Nat):Int)])) w:=by
 rw[run_callFunc_extern Tryz.func267 (by kernel_rfl) (by kernel_rfl) (by kernel_rfl) (e:=add64Entry) (by kernel_rfl),run_add64 x y 0 (by omega) (by omega) (by omega) (by omega)]
 simp only[Result.andThen]
 congr 5<;>omega
def tStep (x:Nat) (s:List Nat×Nat) (w:Nat):List Nat×Nat:=(s.1++[(w*x+s.2) % 18446744073709551616],(w*x+s.2) / 18446744073709551616)
def tSt (x:Nat) (l:List Nat):List Nat×Nat:=l.foldl (tStep x) ([],0)
def zAV (x:Nat) (l:List Nat):List Nat:=if 0<(tSt x l).2 then (tSt x l).1++[(tSt x l).2] else (tSt x l).1
theorem tSt_snoc (x:Nat) (l:List Nat) (w:Nat):tSt x (l++[w])=tStep x (tSt x l) w:=by simp[tSt]
theorem take1 {α:Type} {xs:List α} {k:Nat} {a:α} (h:xs[k]? =some a):xs.take (k+1)=xs.take k++[a]:=by
 rw[List.take_add_one,h]
 rfl
theorem snoc_ind {P:List Nat->Prop} (h0:P []) (h1:∀ l a,P l->P (l++[a])) (l:List Nat):P l:=by
 rw[<- l.reverse_reverse]
 induction l.reverse with
 | nil=>exact h0
 | cons a t ih=>rw[List.reverse_cons];exact h1 _ _ ih
def Word (n:Nat):Prop:=n<18446744073709551616
theorem mulW {w x:Nat} (hw:Word w):w*x<=18446744073709551615*x:=Nat.mul_le_mul_right x (by unfold Word at hw;omega)
theorem tSt_over (x:Nat):∀ (l:List Nat),(∀ w∈l,Word w)->(tSt x l).2<=x:=by
 intro l
 refine snoc_ind (P:=fun l=>(∀ w∈l,Word w)->(tSt x l).2<=x) ?_ ?_ l
 ·intro _;exact Nat.zero_le _
 ·intro l w ih h
  have h1:=ih (fun u hu=>h u (List.mem_append_left _ hu))
  have h2:=mulW (x:=x) (h w (List.mem_append_right _ (List.mem_singleton.2 rfl)))
  rw[tSt_snoc]
  show (w*x+(tSt x l).2) / 18446744073709551616<=x
  generalize w*x=p at *
  omega
theorem tSt_len (x:Nat) (l:List Nat):(tSt x l).1.length=l.length:=by
 refine snoc_ind (P:=fun l=>(tSt x l).1.length=l.length) rfl ?_ l
 intro l w ih
 rw[tSt_snoc]
 simp[tStep,ih]
theorem tSt_word (x:Nat) (l:List Nat):∀ u∈(tSt x l).1,Word u:=by
 refine snoc_ind (P:=fun l=>∀ u∈(tSt x l).1,Word u) ?_ ?_ l
 ·intro u hu;simp[tSt] at hu
 ·intro l w ih u hu
  rw[tSt_snoc] at hu
  simp only[tStep,List.mem_append,List.mem_singleton] at hu
  rcases hu with hu|hu
  ·exact ih u hu
  ·subst hu;exact Nat.mod_lt _ (by decide)
theorem times_len (x:Nat) (l:List Nat):(zAV x l).length<=l.length+1:=by
 unfold zAV
 split<;>simp[tSt_len]
theorem times_word (x:Nat) (hx:Word x) (l:List Nat) (hl:∀ w∈l,Word w):∀ u∈zAV x l,Word u:=by
 intro u hu
 unfold zAV at hu
 split at hu
 ·simp only[List.mem_append,List.mem_singleton] at hu
  rcases hu with hu|hu
  ·exact tSt_word x l u hu
  ·subst hu
   have:=tSt_over x l hl
   unfold Word at *
   omega
 ·exact tSt_word x l u hu
theorem info_U:(Tryz.prog.info? 146).map (fun i=>(i.zero,i.size,i.bytes))=some (some (.int .u64 0),1,8):=by kernel_rfl
theorem U_append (a b:List Nat):U (a++b)=U a++U b:=by simp[U]
theorem U_one (n:Nat):∀ u∈U [n],u.oneCell'=true:=by
 intro u hu
 simp only[U,List.map_cons,List.map_nil,List.mem_cons,List.not_mem_nil,or_false] at hu
 subst hu
 rfl
def Words (w:World) (v:Value) (l:List Nat):Prop:=∃ A c,v=.slice A l.length c/\Reads w w.heap.size 1 A l.length (U l)
theorem Words.below {w w':World} {v:Value} {l:List Nat} (h:Words w v l) (hb:Below w.heap.size w w'):Words w' v l:=by
 obtain⟨A,c,e,hr⟩:=h
 exact⟨A,c,e,(hr.below hb).lift hb.size⟩
theorem own_words {w:World} {base:Nat} {v:Value} {l:List Nat} (h:w.ownsRow base 146 1 v l.length (U l)):Words w v l:=by
 rcases Nat.eq_zero_or_pos l.length with h0|h0
 ·rcases h.2 with ⟨h1,h2⟩|⟨g,cap,cur,e1,_⟩
  ·subst h1;exact⟨none,0,by rw[h0],by simp[U],fun h=>by omega⟩
  ·exact⟨_,_,e1,by simp[U],fun h=>by omega⟩
 ·obtain⟨g,c,e,_,_,_,hg,hcell,_⟩:=zAf h h0
  exact⟨_,_,e,by simp[U],fun _=>⟨g,0,rfl,hg,fun j u hu=>by rw[Nat.zero_add];exact hcell j u hu⟩⟩
theorem dec_times (x:Nat) (hx:Word x) (l:List Nat) (hl:∀ u∈l,Word u) (hn:l.length<=1000) (v:Value) (w:World) (hv:Words w v l) :
  Calls Tryz.prog 244 #[v,.int .u64 ((x:Nat):Int)] w fun e w'=>(∃ r,e=.returned r/\Words w' r (zAV x l))/\Below w.heap.size w w':=by
 obtain⟨A,c,rfl,hr⟩:=hv
 obtain⟨i0,hi,hz0,hz1,hz2⟩:=info_parts info_U
 have ha:=fun (x y:Nat) (w:World)=>add64 x y w
 obtain⟨n,hln⟩:∃ n,l.length=n:=⟨_,rfl⟩
 rw[hln] at hr hn ⊢
 have HL:=zh hl
 have HR:=zh hr
 have HX:=zh hx
 have HA:=zh ha
 obtain⟨T,hT⟩:∃ T,zAV x l=T:=⟨_,rfl⟩
 rw[hT]
 have HT:=zh hT
 clear hl hr hx ha hT
 go_enter Tryz.func244,Tryz.ntmps244
 go_wp2
 go_loopw [15,6,5] (fun t o v wr=>∃ j:Nat,j<=n/\t=.int .i64 j/\o=.int .u64 (((tSt x (l.take j)).2:Nat):Int)/\zAE w wr 146 1 v j (U (tSt x (l.take j)).1)) (fun t _ _ _=>n-(intOf t).toNat)
 case atStart=>exact⟨0,Nat.zero_le _,rfl,rfl,Below.refl _ _,World.ownsRow_nil _ _ _ _⟩
 case round =>
  obtain⟨j,hj,rfl,rfl,hR⟩:=hrel
  have HS:=zh hR
  have hsz:=hR.1.size
  clear hR
  by_cases hlt:j<n
  ·obtain⟨b,off,rfl,_,hc⟩:=HR.out.2 (by omega)
   obtain⟨a,ha⟩:∃ a,l[j]? =some a:=⟨_,List.getElem?_eq_getElem (show j<l.length by omega)⟩
   have c0:wr.cell? ⟨b,off+j,none⟩=some (.int .u64 (a:Int)):=by
    have h1:=hc j _ (show (U l)[j]? =some (.int .u64 (a:Int)) by simp[U,ha])
    exact(HS.out.1.cell (p:=⟨b,_,none⟩) (World.block_lt_of_cell? w _ h1)).trans h1
   have haw:=HL.out a (List.mem_of_getElem? ha)
   have ho:=tSt_over x (l.take j) (fun u hu=>HL.out u (List.mem_of_mem_take hu))
   have hst:=tSt_snoc x (l.take j) a
   rw[<- take1 ha] at hst
   obtain⟨o,hoo⟩:∃ o,(tSt x (l.take j)).2=o:=⟨_,rfl⟩
   have hm:=mulW (x:=x) haw
   obtain⟨p,hp⟩:∃ p,a*x=p:=⟨_,rfl⟩
   obtain⟨p1,hp1⟩:∃ q,p / 18446744073709551616=q:=⟨_,rfl⟩
   obtain⟨p0,hp0⟩:∃ q,p % 18446744073709551616=q:=⟨_,rfl⟩
   obtain⟨s,hs⟩:∃ s,(p0+o) % 18446744073709551616=s:=⟨_,rfl⟩
   obtain⟨k,hk⟩:∃ k,(p0+o) / 18446744073709551616=k:=⟨_,rfl⟩
   have hx2:=HX.out
   unfold Word at hx2 haw
   rw[hoo] at ho
   rw[hp] at hm
   have hov:p1+k<18446744073709551616:=by omega
   have e1:(tSt x (l.take (j+1))).1=(tSt x (l.take j)).1++[s]:=by rw[hst];simp only[tStep,hoo,hp];congr 2;omega
   have e2:(tSt x (l.take (j+1))).2=p1+k:=by rw[hst];simp only[tStep,hoo,hp];omega
   have E1:=zh e1
   have E2:=zh e2
   have HP:=zh hp
   have HP1:=zh hp1
   have HP0:=zh hp0
   have HSS:=zh hs
   have HK:=zh hk
   have HAW:=zh haw
   have hov':(p1:Int)+(k:Int)<18446744073709551616:=by omega
   have hadd:=HA.out p0 o
   rw[hs,hk] at hadd
   rw[hoo]
   clear hst hm hp hp1 hp0 hs hk e1 e2 haw ho hoo hc
   go_wp2_with(first|(go_at_call 58;refine(Tryz.bits_Mul64 a x HAW.out HX.out _).mono ?_;rw[HP.out,HP1.out,HP0.out];rintro e w1 ⟨rfl,rfl⟩)|(at_builtin;refine wpList_append_own _ rfl _ _ 267 rfl w.heap.size 146 i0 _ 1 8 Tryz.underlying267 hi hz0 hz1 hz2 rfl (by decide) _ _ _ rfl (zA7 HS.out.2 bel) _ 1 1 (U [s]) rfl rfl ?_ ?_ ?_ ?_ ?_ ?_))
   ·exact fun i u hu=>zAJ (by simp) i u hu
   ·exact U_one s
   ·simp only[maxLen];omega
   ·omega
   ·have h1:=HS.out.1.size
    simp at h1 ⊢
    try omega
   ·intro v' w1 hown' hgrow _
    have R:=zAE.step HS.out bel (show w1.ownsRow w.heap.size 146 1 v' (j+1) (U (tSt x (l.take j)).1++U [s]) from by simpa using hown') hgrow
    rw[<- U_append,<-E1.out] at R
    have HS':=zh R
    clear hown' hgrow R HS c0
    go_wp2
    go_roundw
    case rel=>exact⟨j+1,by omega,by go_num,by rw[E2.out];first|rfl|go_num,HS'.out⟩
    case measure=>simp[intOf];omega
  ·obtain rfl:j=n:=by omega
   have hS:=HS.out
   rw[List.take_of_length_le (by omega)] at hS ⊢
   have hT:=HT.out
   have ho:=tSt_over x l HL.out
   have hx2:=HX.out
   unfold Word at hx2
   obtain⟨o,hoo⟩:∃ o,(tSt x l).2=o:=⟨_,rfl⟩
   obtain⟨L,hLL⟩:∃ L,(tSt x l).1=L:=⟨_,rfl⟩
   have hlen:L.length=j:=by rw[<- hLL,tSt_len,hln]
   unfold zAV at hT
   rw[hoo,hLL] at hT
   rw[hLL] at hS
   rw[hoo] at ho
   rw[hoo]
   have HS2:=zh hS
   clear hS HS HT hLL
   by_cases h0:0<o
   ·rw[if_pos h0] at hT
    have h0':(0:Int)<(o:Int):=by omega
    subst hT
    go_wp2_with(at_builtin;refine wpList_append_own _ rfl _ _ 267 rfl w.heap.size 146 i0 _ 1 8 Tryz.underlying267 hi hz0 hz1 hz2 rfl (by decide) _ _ _ rfl (zA7 HS2.out.2 bel) _ 1 1 (U [o]) rfl rfl ?_ ?_ ?_ ?_ ?_ ?_)
    ·exact fun i u hu=>zAJ (by simp) i u hu
    ·exact U_one o
    ·simp only[maxLen];omega
    ·omega
    ·have h1:=HS2.out.1.size
     simp at h1 ⊢
     try omega
    ·intro v' w1 hown' hgrow _
     have R:=zAE.step HS2.out bel (show w1.ownsRow w.heap.size 146 1 v' (j+1) (U L++U [o]) from by simpa using hown') hgrow
     rw[<- U_append] at R
     have HS':=zh R
     clear hown' hgrow R HS2
     go_wp2
     go_returns
     refine⟨⟨_,rfl,own_words (base:=w.heap.size) ?_⟩,HS'.out.1⟩
     have h:=HS'.out.2
     have e:(L++[o]).length=j+1:=by simp[hlen]
     rw[e]
     exact h
   ·rw[if_neg h0] at hT
    have h0': ¬ (0:Int)<(o:Int):=by omega
    subst hT
    go_wp2
    go_returns
    refine⟨⟨_,rfl,own_words (base:=w.heap.size) ?_⟩,HS2.out.1⟩
    rw[hlen]
    exact HS2.out.2
def bSt (x:Nat):List Nat->List Nat×Nat
 | []=>([],0)
 | w::ws=>(((bSt x ws).2*18446744073709551616+w) / x::(bSt x ws).1,((bSt x ws).2*18446744073709551616+w) % x)
def strip (L:List Nat):Nat->List Nat
 | 0=>[]
 | m+1=>if L.getD m 0=0 then strip L m else L.take (m+1)
def byL (x:Nat) (l:List Nat):List Nat:=strip (bSt x l).1 l.length
theorem bSt_len (x:Nat):∀ l,(bSt x l).1.length=l.length
 | []=>rfl
 | w::ws=>by simp[bSt,bSt_len x ws]
theorem bSt_rest (x:Nat) (hx:0<x):∀ l,(bSt x l).2<x
 | []=>hx
 | w::ws=>Nat.mod_lt _ hx
theorem bSt_word (x:Nat) (hx:0<x):∀ l,(∀ u∈l,Word u)->∀ u∈(bSt x l).1,Word u
 | [],_,u,hu=>by simp[bSt] at hu
 | w::ws,h,u,hu=>by
   simp only[bSt,List.mem_cons] at hu
   rcases hu with hu|hu
   ·subst hu
    have h1:=bSt_rest x hx ws
    have h2:=h w (List.mem_cons_self ..)
    unfold Word at *
    refine Nat.div_lt_of_lt_mul ?_
    have h3:((bSt x ws).2+1)*18446744073709551616<=x*18446744073709551616:=Nat.mul_le_mul_right _ h1
    generalize (bSt x ws).2=r at *
    omega
   ·exact bSt_word x hx ws (fun v hv=>h v (List.mem_cons_of_mem _ hv)) u hu
theorem strip_sub (L:List Nat):∀ m,∀ u∈strip L m,u∈L
 | 0,u,hu=>by simp[strip] at hu
 | m+1,u,hu=>by
   unfold strip at hu
   split at hu
   ·exact strip_sub L m u hu
   ·exact List.mem_of_mem_take hu
theorem strip_len (L:List Nat):∀ m,(strip L m).length<=m
 | 0=>Nat.le_refl _
 | m+1=>by
   unfold strip
   split
   ·have:=strip_len L m;omega
   ·simp;omega
theorem by_word (x:Nat) (hx:0<x) (l:List Nat) (hl:∀ u∈l,Word u):∀ u∈byL x l,Word u:=fun u hu=>bSt_word x hx l hl u (strip_sub _ _ u hu)
theorem by_len (x:Nat) (l:List Nat):(byL x l).length<=l.length:=strip_len _ _
theorem cell_set_some' {W:World} {a:Addr} {u:Value} (h:(W.cell? a).isSome=true):(W.setCell a u).cell? a=some u:=by
 obtain⟨v,hv⟩:=Option.isSome_iff_exists.1 h
 exact World.cell?_setCell_same _ _ _ hv
theorem atB_set {w:World} {g i:Nat} {L:List Value} (h:AtB w g L) (hi:i<L.length) (u:Value):AtB (w.setCell ⟨g,i,none⟩ u) g (L.set i u):=by
 intro j v hv
 have hj:j<L.length:=by have:=(List.getElem?_eq_some_iff.1 hv).1;simpa using this
 by_cases e:j=i
 ·subst e
  rw[List.getElem?_set_self hi] at hv
  cases hv
  exact cell_set_some' (by rw[h j _ (List.getElem?_eq_getElem hj)];rfl)
 ·rw[List.getElem?_set_ne (Ne.symm e)] at hv
  rw[World.cell?_setCell_other _ _ _ _ (by intro h2;injection h2 with _ h3;exact e h3.symm)]
  exact h j v hv
theorem rep_set (k q:Nat) (M:List Nat):(U (List.replicate (k+1) 0++M)).set k (.int .u64 (q:Int))=U (List.replicate k 0++q::M):=by
 induction k with
 | zero=>rfl
 | succ k ih =>
   have e:U (List.replicate (k+1+1) 0++M)=Value.int .u64 0::U (List.replicate (k+1) 0++M):=rfl
   rw[e,List.set_cons_succ,ih]
   rfl
theorem dec_by (x:Nat) (hx:Word x) (hx0:0<x) (l:List Nat) (hl:∀ u∈l,Word u) (hn:l.length<=1000) (v:Value) (w:World) (hv:Words w v l) :
  Calls Tryz.prog 245 #[v,.int .u64 ((x:Nat):Int)] w fun e w'=>(∃ r,e=.returned r/\Words w' r (byL x l))/\Below w.heap.size w w':=by
 obtain⟨A,c,rfl,hr⟩:=hv
 obtain⟨i0,hi,hz0,hz1,hz2⟩:=info_parts info_U
 obtain⟨n,hln⟩:∃ n,l.length=n:=⟨_,rfl⟩
 have hmk:∀ w,(Instr.makeSlice 267 (.int .i64 ((n:Nat):Int)) (.int .i64 ((n:Nat):Int))).run Tryz.prog w=.ok (.slice (some ⟨w.heap.size,0,none⟩) n n) (w.alloc (.cells (madeCells #[.int .u64 0] n) 146)):=fun w=>by
  have h:=run_makeSlice (P:=Tryz.prog) (w:=w) 267 146 i0 (.int .u64 0) Tryz.underlying267 hi hz0 .i64 .i64 n n (by omega) (Int.le_refl _) (by rw[hz1];omega) (by rw[hz2];omega) (by omega)
  simpa [hz1,Value.cells] using h
 obtain⟨T,hT⟩:∃ T,byL x l=T:=⟨_,rfl⟩
 rw[hT]
 rw[hln] at hr hn ⊢
 have HL:=zh hl
 have HR:=zh hr
 have HX:=zh hx
 have HT:=zh hT
 have HN:=zh hln
 clear hl hr hx hT
 go_enter Tryz.func245,Tryz.ntmps245
 go_wp2
 go_loopw [7,6] (fun t o wr=>∃ k:Nat,k<=n/\t=.int .i64 ((k:Int)-1)/\o=.int .u64 (((bSt x (l.drop k)).2:Nat):Int)/\Below w.heap.size w wr/\AtB wr w.heap.size (U (List.replicate k 0++(bSt x (l.drop k)).1))/\(∀ i,wr.frozen? ⟨w.heap.size,i,none⟩=false)/\w.heap.size<wr.heap.size) (fun t _ _=>(intOf t+1).toNat)
 case atStart =>
  refine⟨n,Nat.le_refl _,by go_num,?_,bel,?_,fun i=>frozen_of_row _ _ _ _ _ (heap_alloc_new w _),by simp⟩
  ·rw[List.drop_of_length_le (by omega)];rfl
  ·rw[List.drop_of_length_le (by omega)]
   have h:=AtB.new (w:=w) (cs:=madeCells #[.int .u64 0] n) (t:=146) rfl
   rw[Go.toList_madeCells_one] at h
   simpa [U,bSt] using h
 case round =>
  obtain⟨k,hk,rfl,rfl,hB,hAt,hf,hsz⟩:=hrel
  have HB:=zh hB
  have HA:=zh hAt
  have HF:=zh hf
  clear hB hAt hf
  rcases Nat.eq_zero_or_pos k with h0|h0
  ·subst h0
   have hA:=HA.out
   rw[List.drop_zero] at hA
   have hT:=HT.out
   unfold byL at hT
   rw[HN.out] at hT
   have hlen:=bSt_len x l
   rw[HN.out] at hlen
   obtain⟨qs,hL⟩:∃ qs,(bSt x l).1=qs:=⟨_,rfl⟩
   rw[hL] at hT hlen hA
   have HAL:=zh (show AtB wr w.heap.size (U qs) from hA)
   have HTL:=zh hT
   clear hT hA HA hL HT
   go_wp2
   go_loop [5] (fun t=>∃ m:Nat,m<=n/\t=.slice (some ⟨w.heap.size,0,none⟩) m n/\strip qs m=T) (fun t=>match t with| .slice _ m _=>m|_=>0)
   case atStart=>exact⟨n,Nat.le_refl _,rfl,HTL.out⟩
   case round =>
    obtain⟨m,hm,rfl,hs⟩:=hrel
    rcases Nat.eq_zero_or_pos m with h0|h0
    ·subst h0
     have hs':T=[]:=hs.symm
     subst hs'
     clear hs
     go_wp2
     go_returns
     exact⟨⟨_,rfl,some ⟨w.heap.size,0,none⟩,n,rfl,rfl,fun h=>absurd h (Nat.lt_irrefl 0)⟩,HB.out⟩
    ·obtain⟨j,rfl⟩:∃ j,m=j+1:=⟨m-1,by omega⟩
     obtain⟨a,ha⟩:∃ a,qs[j]? =some a:=⟨_,List.getElem?_eq_getElem (show j<qs.length by omega)⟩
     have c0:wr.cell? ⟨w.heap.size,j,none⟩=some (.int .u64 (a:Int)):=HAL.out j _ (by simp[U,ha])
     have hg:qs.getD j 0=a:=by simp[List.getD,ha]
     by_cases hz:a=0
     ·subst hz
      have hs':strip qs j=T:=by rw[<- hs];show _=if qs.getD j 0=0 then strip qs j else qs.take (j+1);rw[if_pos hg]
      have HS:=zh hs'
      clear hs hs' hg ha
      go_wp2
      go_round
      case rel=>exact⟨j,by omega,rfl,HS.out⟩
      case measure=>simp
     ·have hs':T=qs.take (j+1):=by rw[<- hs];show (if qs.getD j 0=0 then strip qs j else qs.take (j+1))=_;rw[if_neg (by omega)]
      have hz': ¬ (a:Int)=0:=by omega
      have HS:=zh hs'
      clear hs hs' hg ha
      go_wp2
      go_returns
      refine⟨⟨_,rfl,some ⟨w.heap.size,0,none⟩,n,?_,?_,fun h=>⟨w.heap.size,0,rfl,hsz,fun i u hu=> ?_⟩⟩,HB.out⟩
      ·rw[HS.out];simp;omega
      ·simp[U]
      ·rw[Nat.zero_add]
       rw[HS.out] at hu
       have h1:(U (qs.take (j+1)))[i]? =((U qs).take (j+1))[i]? :=by simp[U,List.map_take]
       rw[h1,List.getElem?_take] at hu
       split at hu
       ·exact HAL.out i u hu
       ·cases hu
  ·obtain⟨m,rfl⟩:∃ m,k=m+1:=⟨k-1,by omega⟩
   obtain⟨b,off,rfl,hbl,hc⟩:=HR.out.2 (by omega)
   obtain⟨a,ha⟩:∃ a,l[m]? =some a:=⟨_,List.getElem?_eq_getElem (show m<l.length by omega)⟩
   have c0:wr.cell? ⟨b,off+m,none⟩=some (.int .u64 (a:Int)):=by
    have h1:=hc m _ (show (U l)[m]? =some (.int .u64 (a:Int)) by simp[U,ha])
    exact(HB.out.cell (p:=⟨b,_,none⟩) (World.block_lt_of_cell? w _ h1)).trans h1
   have hbg:b<wr.heap.size:=by omega
   have hd:l.drop m=a::l.drop (m+1):=by
    obtain⟨hm,hv⟩:=List.getElem?_eq_some_iff.1 ha
    rw[List.drop_eq_getElem_cons hm,hv]
   have hst:bSt x (l.drop m)=(((bSt x (l.drop (m+1))).2*18446744073709551616+a) / x::(bSt x (l.drop (m+1))).1,((bSt x (l.drop (m+1))).2*18446744073709551616+a) % x):=by rw[hd];rfl
   have haw:a<18446744073709551616:=HL.out a (List.mem_of_getElem? ha)
   have hr:=bSt_rest x hx0 (l.drop (m+1))
   obtain⟨r,hrr⟩:∃ r,(bSt x (l.drop (m+1))).2=r:=⟨_,rfl⟩
   obtain⟨M,hM⟩:∃ M,(bSt x (l.drop (m+1))).1=M:=⟨_,rfl⟩
   obtain⟨q,hq⟩:∃ q,(r*18446744073709551616+a) / x=q:=⟨_,rfl⟩
   obtain⟨r2,hr2⟩:∃ r2,(r*18446744073709551616+a) % x=r2:=⟨_,rfl⟩
   rw[hrr,hM,hq,hr2] at hst
   have hA:=HA.out
   rw[hM] at hA
   have HA2:=zh hA
   have d0:wr.cell? ⟨w.heap.size,m,none⟩=some (.int .u64 0):=hA m _ (by simp[U,List.getElem?_append_left,List.getElem?_replicate])
   have f0:=HF.out m
   rw[hrr] at hr ⊢
   have hkm:((m+1:Nat):Int)-1=(m:Int):=by omega
   rw[hkm]
   have HQ:=zh hq
   have HR2:=zh hr2
   have HST:=zh hst
   have HRX:=zh hr
   have HAW:=zh haw
   clear hst hq hr2 hM hrr hr haw hA HA hd ha hc hkm
   go_wp2_with(go_at_call 59;refine(Div64 r a x HRX.out HAW.out HX.out _).mono ?_;rw[HQ.out,HR2.out];rintro e w1 ⟨rfl,hb⟩;obtain⟨l1,n1,rfl⟩:=zA0 hb;clear hb)
   go_roundw
   case rel =>
    refine⟨m,by omega,by go_num,by rw[HST.out],?_,?_,?_,?_⟩
    ·have hB:=HB.out
     exact bel
    ·rw[HST.out,<-rep_set]
     exact(atB_set HA2.out (by simp[U];omega) _).below bel
    ·intro i
     rw[more_frozen (by simpa using hsz)]
     simpa using HF.out i
    ·simp;omega
   case measure=>simp[intOf]
def zBk (f:List Nat->List Nat):Nat->List Nat->List Nat
 | 0,l=>l
 | k+1,l=>f (zBk f k l)
theorem zBQ (x:Nat) (hx:Word x) (l:List Nat) (hl:∀ u∈l,Word u):∀ k,(∀ u∈zBk (zAV x) k l,Word u)/\(zBk (zAV x) k l).length<=l.length+k
 | 0=>⟨hl,Nat.le_refl _⟩
 | k+1=>by
   have ih:=zBQ x hx l hl k
   have h:=times_len x (zBk (zAV x) k l)
   exact⟨times_word x hx _ ih.1,by show (zAV x _).length<=_;omega⟩
theorem iter_by (x:Nat) (hx:0<x) (l:List Nat) (hl:∀ u∈l,Word u):∀ k,(∀ u∈zBk (byL x) k l,Word u)/\(zBk (byL x) k l).length<=l.length
 | 0=>⟨hl,Nat.le_refl _⟩
 | k+1=>by
   have ih:=iter_by x hx l hl k
   have h:=by_len x (zBk (byL x) k l)
   exact⟨by_word x hx _ ih.1,by show (byL x _).length<=_;omega⟩
theorem word2:∀ u∈[2],Word u:=by
 intro u hu
 simp only[List.mem_cons,List.not_mem_nil,or_false] at hu
 subst hu
 exact(by decide:2<18446744073709551616)
theorem words_new {w:World} {p:Nat} (hp:p=w.heap.size):Words (w.alloc (.cells #[.int .u64 2] 146)) (.slice (some ⟨p,0,none⟩) 1 1) [2]:=by
 subst hp
 exact⟨_,_,rfl,rfl,fun _=>⟨w.heap.size,0,rfl,by simp,fun j u hu=>by rw[Nat.zero_add];exact(AtB.new rfl) j u hu⟩⟩
theorem word1e4:Word 10000:=(by decide:10000<18446744073709551616)
def powE (l:List Nat) (b:Bool):Int×Int:=if 1<l.length then (0,2) else signX (l.headD 0 / 2+l.headD 0 % 2) b
def powL (m:Nat) (n:Int):List Nat:=if 0<n then zBk (byL 10000) (n-1).toNat (zBk (zAV m) n.toNat [2]) else zBk (byL m) (-n).toNat (zBk (zAV 10000) (1-n).toNat [2])
def powX (x n:Int):Int×Int:=if x=minI then (0,2) else if n< -64∨64<n then (0,8) else if n=0 then (10000,0) else if x=0/\n<0 then (0,3) else powE (powL x.natAbs n) (lowX x&&n % 2 != 0)
theorem power_up (x n:Int) (hx:Is64 x) (hm:x≠minI) (hz:x≠0) (hn0:0<n) (hn64:n<=64) (w:World):Rt 171 #[.int .i64 x,.int .i64 n] w (.tuple #[.int .i64 (powX x n).1,.int .i64 (powX x n).2]):=by
 have k1:(x != minI)=true:=by simp[hm]
 obtain⟨k,hk⟩:∃ k:Nat,n=(k:Int)+1:=⟨(n-1).toNat,by omega⟩
 obtain⟨m,hmm⟩:∃ m,x.natAbs=m:=⟨_,rfl⟩
 have hmw:Word m:=by unfold Is64 at hx;unfold Word;omega
 have hp:powX x n=powE (zBk (byL 10000) k (zBk (zAV m) (k+1) [2])) (lowX x&&n % 2 != 0):=by
  unfold powX powL
  rw[if_neg hm,if_neg (show ¬ (n< -64∨64<n) by omega),if_neg (show ¬ n=0 by omega),if_neg (show ¬ (x=0/\n<0) by omega),if_pos (show 0<n by omega),hmm,show (n-1).toNat=k by omega,show n.toNat=k+1 by omega]
 rw[hp]
 obtain⟨R,hR⟩:∃ R,powE (zBk (byL 10000) k (zBk (zAV m) (k+1) [2])) (lowX x&&n % 2 != 0)=R:=⟨_,rfl⟩
 rw[hR]
 have HNK:=zh hk
 have HR:=zh hR
 have HX:=zh hx
 have HM:=zh hmm
 have HMW:=zh hmw
 have HWD:=zh (iter_by 10000 (by decide) _ (zBQ m hmw [2] word2 (k+1)).1 k).1
 have hnx:IntKind.i64.wrap (n-1)=(k:Int):=by rw[IntKind.wrap_i64];omega
 have hn1: ¬ n< -64:=by omega
 have hn2: ¬ n<0:=by omega
 have hn3: ¬ n=0:=by omega
 have hk64:k<64:=by omega
 have hz2:(x==0)=false:=by simp[hz]
 clear hR hx hmm hmw hp hm hz hk
 go_enter Tryz.func171,Tryz.ntmps171
 go_wp2_with(first|(go_at_call 56;refine(zAM _ _).mono ?_;rintro e w1 ⟨rfl,rfl⟩)|(go_at_call 57;refine(zAj x HX.out _).mono ?_;rw[HM.out];rintro e w1 ⟨rfl,rfl⟩))
 go_loopw [42,8] (fun t v wr=>∃ j:Nat,j<=(k+1)/\t=.int .i64 j/\Words wr v (zBk (zAV m) j [2])/\Below w.heap.size w wr) (fun t _ _=>(k+1)-(intOf t).toNat)
 case atStart=>exact⟨0,Nat.zero_le _,rfl,words_new rfl,bel⟩
 case round =>
  obtain⟨j,hj,rfl,hW,hB⟩:=hrel
  have HW:=zh hW
  have HB:=zh hB
  have hsz:=hB.size
  clear hW hB
  by_cases hlt:j<(k+1)
  ·have hlt':(j:Int)<n:=by have:=HNK.out;omega
   have hok:=(show (∀ u∈zBk (zAV m) j [2],Word u)/\(zBk (zAV m) j [2]).length<=1+j from zBQ m HMW.out [2] word2 j)
   have HO:=zh hok
   clear hok
   go_wp2_with fail
   go_at_call 244
   refine(dec_times m HMW.out  _ HO.out.1 (by have h5:=HO.out.2;omega) _ _ HW.out).mono ?_
   rintro e w1 ⟨⟨v1,rfl,hw1⟩,hb1⟩
   have HW1:=zh hw1
   have HB1:=zh (HB.out.trans (hb1.mono hsz))
   clear hw1 hb1
   go_wp2
   go_roundw
   case rel=>exact⟨j+1,by omega,by go_num,HW1.out,HB1.out⟩
   case measure=>simp[intOf];omega
  ·obtain rfl:j=(k+1):=by omega
   have hlt': ¬ ((k+1:Nat):Int)<n:=by have:=HNK.out;omega
   clear hlt hj
   have HW0:=zh HW.out
   have HB0:=zh HB.out
   clear HW HB
   go_wp2
   go_loopw [50,8] (fun t v wr=>∃ j:Nat,j<=k/\t=.int .i64 j/\Words wr v (zBk (byL 10000) j (zBk (zAV m) (k+1) [2]))/\Below w.heap.size w wr) (fun t _ _=>k-(intOf t).toNat)
   case atStart=>exact⟨0,Nat.zero_le _,rfl,HW0.out,HB0.out⟩
   case round =>
    obtain⟨j,hj,rfl,hW,hB⟩:=hrel
    have HW:=zh hW
    have HB:=zh hB
    have hsz:=hB.size
    clear hW hB
    by_cases hlt:j<k
    ·have hlt':(j:Int)<(k:Int):=by have:=HNK.out;omega
     have hok:=(show (∀ u∈_,Word u)/\(zBk (byL 10000) j (zBk (zAV m) (k+1) [2])).length<=1000 from by have h1:(∀ u∈zBk (zAV m) (k+1) [2],Word u)/\(zBk (zAV m) (k+1) [2]).length<=1+(k+1):=zBQ m HMW.out [2] word2 (k+1);have h2:=iter_by 10000 (by decide) _ h1.1 j;exact⟨h2.1,by have:=h1.2;have:=h2.2;omega⟩)
     have HO:=zh hok
     clear hok
     go_wp2_with fail
     go_at_call 245
     refine(dec_by 10000 word1e4 (by decide)  _ HO.out.1 (by have h5:=HO.out.2;omega) _ _ HW.out).mono ?_
     rintro e w1 ⟨⟨v1,rfl,hw1⟩,hb1⟩
     have HW1:=zh hw1
     have HB1:=zh (HB.out.trans (hb1.mono hsz))
     clear hw1 hb1
     go_wp2
     go_roundw
     case rel=>exact⟨j+1,by omega,by go_num,HW1.out,HB1.out⟩
     case measure=>simp[intOf];omega
    ·obtain rfl:j=k:=by omega
     have hlt': ¬ (j:Int)<(j:Int):=by have:=HNK.out;omega
     clear hlt hj
     have hR:=HR.out
     obtain⟨H,hH⟩:∃ H,zBk (byL 10000) j (zBk (zAV m) (j+1) [2])=H:=⟨_,rfl⟩
     rw[hH] at hR
     have hw:=HW.out
     rw[hH] at hw
     obtain⟨A,c,rfl,hrd⟩:=hw
     have hword:∀ u∈H,Word u:=by rw[<- hH];exact HWD.out
     clear HR HW hH HWD
     unfold powE at hR
     by_cases h1:1<H.length
     ·have h1':(1:Int)<(H.length:Int):=by omega
      rw[if_pos h1] at hR
      subst hR
      clear hrd
      go_wp2
      go_returns
      exact⟨rfl,HB.out⟩
     ·have h1': ¬ (1:Int)<(H.length:Int):=by omega
      rw[if_neg h1] at hR
      have hh:Word (H.headD 0):=by
       cases H with
       | nil=>exact(by decide:0<18446744073709551616)
       | cons a t=>exact hword a (List.mem_cons_self ..)
      obtain⟨h,hhd⟩:∃ h,H.headD 0=h:=⟨_,rfl⟩
      rw[hhd] at hR hh
      have HH:=zh hh
      have hq:h / 2+h % 2<18446744073709551616:=by unfold Word at hh;omega
      have HHD:=zh hhd
      have HRD:=zh hrd
      have HRR:=zh hR
      unfold Word at hh
      clear hhd hrd hword hR
      go_wp2
      go_loop [75,9] (fun t u=>∃ j:Nat,j<=H.length/\t=.int .i64 j/\((j=0/\u=.int .u64 0)∨(0<j/\u=.int .u64 (h:Int)))) (fun t _=>H.length-(intOf t).toNat)
      case atStart=>exact⟨0,Nat.zero_le _,rfl,.inl ⟨rfl,rfl⟩⟩
      case round =>
       obtain⟨j,hj,rfl,hu⟩:=hrel
       by_cases hlt:j<H.length
       ·obtain rfl:j=0:=by omega
        obtain rfl:=(hu.resolve_right (by omega)).2
        obtain⟨b,off,rfl,_,hc⟩:=HRD.out.2 hlt
        have c0:=hc 0 _ (show (U H)[0]? =some (.int .u64 (h:Int)) by have:=HHD.out;cases H with|nil=>simp at hlt|cons a t=>simp at this;simp[U,this])
        clear hc hu
        rw[Nat.add_zero] at c0
        go_wp2
        go_round
        case rel=>exact⟨1,by omega,by go_num,.inr ⟨by omega,rfl⟩⟩
        case measure=>simp[intOf];omega
       ·have hjh:j=H.length:=by omega
        have hu3:u9=.int .u64 (h:Int):=by
         rcases hu with ⟨h0,e⟩|⟨_,e⟩
         ·have h5:H=[]:=by cases H with|nil=>rfl|cons a t=>simp at hjh;omega
          have h6:=HHD.out
          rw[h5] at h6
          rw[e,<-h6]
          rfl
         ·exact e
        subst hu3
        clear hu hlt hj HHD HRD
        obtain⟨lb,hlb⟩:∃ lb,lowX x=lb:=⟨_,rfl⟩
        have hRR:=HRR.out
        rw[hlb] at hRR
        subst hRR
        rw[hlb]
        clear hlb
        cases lb
        all_goals go_wp2_with(go_at_call 60;refine(signed_int (h / 2+h % 2) _ (by omega) hq _ _).mono ?_;rintro e w1 ⟨rfl,rfl⟩)
        all_goals go_returns
        all_goals first|exact⟨rfl,HB.out⟩|(refine⟨?_,HB.out⟩;simp_all)
theorem power_nought (n:Int) (hn0:0<n) (hn64:n<=64) (w:World):Rt 171 #[.int .i64 0,.int .i64 n] w (.tuple #[.int .i64 (powX 0 n).1,.int .i64 (powX 0 n).2]):=by
 have k1:((0:Int) != minI)=true:=by decide
 have hx:Is64 0:=⟨by decide,by decide⟩
 have hm:(0:Int)≠minI:=by decide
 obtain⟨k,hk⟩:∃ k:Nat,n=(k:Int)+1:=⟨(n-1).toNat,by omega⟩
 obtain⟨m,hmm⟩:∃ m,(0:Int).natAbs=m:=⟨_,rfl⟩
 have hmw:Word m:=by unfold Word;omega
 have hp:powX 0 n=powE (zBk (byL 10000) k (zBk (zAV m) (k+1) [2])) (lowX 0&&n % 2 != 0):=by
  unfold powX powL
  rw[if_neg hm,if_neg (show ¬ (n< -64∨64<n) by omega),if_neg (show ¬ n=0 by omega),if_neg (show ¬ ((0:Int)=0/\n<0) by omega),if_pos (show 0<n by omega),hmm,show (n-1).toNat=k by omega,show n.toNat=k+1 by omega]
 rw[hp]
 obtain⟨R,hR⟩:∃ R,powE (zBk (byL 10000) k (zBk (zAV m) (k+1) [2])) (lowX 0&&n % 2 != 0)=R:=⟨_,rfl⟩
 rw[hR]
 have HNK:=zh hk
 have HR:=zh hR
 have HX:=zh hx
 have HM:=zh hmm
 have HMW:=zh hmw
 have HWD:=zh (iter_by 10000 (by decide) _ (zBQ m hmw [2] word2 (k+1)).1 k).1
 have hnx:IntKind.i64.wrap (n-1)=(k:Int):=by rw[IntKind.wrap_i64];omega
 have hn1: ¬ n< -64:=by omega
 have hn2: ¬ n<0:=by omega
 have hn3: ¬ n=0:=by omega
 have hk64:k<64:=by omega
 clear hR hx hmm hmw hp hm hk
 go_enter Tryz.func171,Tryz.ntmps171
 go_wp2_with(first|(go_at_call 56;refine(zAM _ _).mono ?_;rintro e w1 ⟨rfl,rfl⟩)|(go_at_call 57;refine(zAj 0 HX.out _).mono ?_;rw[HM.out];rintro e w1 ⟨rfl,rfl⟩))
 go_loopw [42,8] (fun t v wr=>∃ j:Nat,j<=(k+1)/\t=.int .i64 j/\Words wr v (zBk (zAV m) j [2])/\Below w.heap.size w wr) (fun t _ _=>(k+1)-(intOf t).toNat)
 case atStart=>exact⟨0,Nat.zero_le _,rfl,words_new rfl,bel⟩
 case round =>
  obtain⟨j,hj,rfl,hW,hB⟩:=hrel
  have HW:=zh hW
  have HB:=zh hB
  have hsz:=hB.size
  clear hW hB
  by_cases hlt:j<(k+1)
  ·have hlt':(j:Int)<n:=by have:=HNK.out;omega
   have hok:=(show (∀ u∈zBk (zAV m) j [2],Word u)/\(zBk (zAV m) j [2]).length<=1+j from zBQ m HMW.out [2] word2 j)
   have HO:=zh hok
   clear hok
   go_wp2_with fail
   go_at_call 244
   refine(dec_times m HMW.out  _ HO.out.1 (by have h5:=HO.out.2;omega) _ _ HW.out).mono ?_
   rintro e w1 ⟨⟨v1,rfl,hw1⟩,hb1⟩
   have HW1:=zh hw1
   have HB1:=zh (HB.out.trans (hb1.mono hsz))
   clear hw1 hb1
   go_wp2
   go_roundw
   case rel=>exact⟨j+1,by omega,by go_num,HW1.out,HB1.out⟩
   case measure=>simp[intOf];omega
  ·obtain rfl:j=(k+1):=by omega
   have hlt': ¬ ((k+1:Nat):Int)<n:=by have:=HNK.out;omega
   clear hlt hj
   have HW0:=zh HW.out
   have HB0:=zh HB.out
   clear HW HB
   go_wp2
   go_loopw [50,8] (fun t v wr=>∃ j:Nat,j<=k/\t=.int .i64 j/\Words wr v (zBk (byL 10000) j (zBk (zAV m) (k+1) [2]))/\Below w.heap.size w wr) (fun t _ _=>k-(intOf t).toNat)
   case atStart=>exact⟨0,Nat.zero_le _,rfl,HW0.out,HB0.out⟩
   case round =>
    obtain⟨j,hj,rfl,hW,hB⟩:=hrel
    have HW:=zh hW
    have HB:=zh hB
    have hsz:=hB.size
    clear hW hB
    by_cases hlt:j<k
    ·have hlt':(j:Int)<(k:Int):=by have:=HNK.out;omega
     have hok:=(show (∀ u∈_,Word u)/\(zBk (byL 10000) j (zBk (zAV m) (k+1) [2])).length<=1000 from by have h1:(∀ u∈zBk (zAV m) (k+1) [2],Word u)/\(zBk (zAV m) (k+1) [2]).length<=1+(k+1):=zBQ m HMW.out [2] word2 (k+1);have h2:=iter_by 10000 (by decide) _ h1.1 j;exact⟨h2.1,by have:=h1.2;have:=h2.2;omega⟩)
     have HO:=zh hok
     clear hok
     go_wp2_with fail
     go_at_call 245
     refine(dec_by 10000 word1e4 (by decide)  _ HO.out.1 (by have h5:=HO.out.2;omega) _ _ HW.out).mono ?_
     rintro e w1 ⟨⟨v1,rfl,hw1⟩,hb1⟩
     have HW1:=zh hw1
     have HB1:=zh (HB.out.trans (hb1.mono hsz))
     clear hw1 hb1
     go_wp2
     go_roundw
     case rel=>exact⟨j+1,by omega,by go_num,HW1.out,HB1.out⟩
     case measure=>simp[intOf];omega
    ·obtain rfl:j=k:=by omega
     have hlt': ¬ (j:Int)<(j:Int):=by have:=HNK.out;omega
     clear hlt hj
     have hR:=HR.out
     obtain⟨H,hH⟩:∃ H,zBk (byL 10000) j (zBk (zAV m) (j+1) [2])=H:=⟨_,rfl⟩
     rw[hH] at hR
     have hw:=HW.out
     rw[hH] at hw
     obtain⟨A,c,rfl,hrd⟩:=hw
     have hword:∀ u∈H,Word u:=by rw[<- hH];exact HWD.out
     clear HR HW hH HWD
     unfold powE at hR
     by_cases h1:1<H.length
     ·have h1':(1:Int)<(H.length:Int):=by omega
      rw[if_pos h1] at hR
      subst hR
      clear hrd
      go_wp2
      go_returns
      exact⟨rfl,HB.out⟩
     ·have h1': ¬ (1:Int)<(H.length:Int):=by omega
      rw[if_neg h1] at hR
      have hh:Word (H.headD 0):=by
       cases H with
       | nil=>exact(by decide:0<18446744073709551616)
       | cons a t=>exact hword a (List.mem_cons_self ..)
      obtain⟨h,hhd⟩:∃ h,H.headD 0=h:=⟨_,rfl⟩
      rw[hhd] at hR hh
      have HH:=zh hh
      have hq:h / 2+h % 2<18446744073709551616:=by unfold Word at hh;omega
      have HHD:=zh hhd
      have HRD:=zh hrd
      have HRR:=zh hR
      unfold Word at hh
      clear hhd hrd hword hR
      go_wp2
      go_loop [75,9] (fun t u=>∃ j:Nat,j<=H.length/\t=.int .i64 j/\((j=0/\u=.int .u64 0)∨(0<j/\u=.int .u64 (h:Int)))) (fun t _=>H.length-(intOf t).toNat)
      case atStart=>exact⟨0,Nat.zero_le _,rfl,.inl ⟨rfl,rfl⟩⟩
      case round =>
       obtain⟨j,hj,rfl,hu⟩:=hrel
       by_cases hlt:j<H.length
       ·obtain rfl:j=0:=by omega
        obtain rfl:=(hu.resolve_right (by omega)).2
        obtain⟨b,off,rfl,_,hc⟩:=HRD.out.2 hlt
        have c0:=hc 0 _ (show (U H)[0]? =some (.int .u64 (h:Int)) by have:=HHD.out;cases H with|nil=>simp at hlt|cons a t=>simp at this;simp[U,this])
        clear hc hu
        rw[Nat.add_zero] at c0
        go_wp2
        go_round
        case rel=>exact⟨1,by omega,by go_num,.inr ⟨by omega,rfl⟩⟩
        case measure=>simp[intOf];omega
       ·have hjh:j=H.length:=by omega
        have hu3:u9=.int .u64 (h:Int):=by
         rcases hu with ⟨h0,e⟩|⟨_,e⟩
         ·have h5:H=[]:=by cases H with|nil=>rfl|cons a t=>simp at hjh;omega
          have h6:=HHD.out
          rw[h5] at h6
          rw[e,<-h6]
          rfl
         ·exact e
        subst hu3
        clear hu hlt hj HHD HRD
        obtain⟨lb,hlb⟩:∃ lb,lowX 0=lb:=⟨_,rfl⟩
        have hRR:=HRR.out
        rw[hlb] at hRR
        subst hRR
        rw[hlb]
        clear hlb
        cases lb
        all_goals go_wp2_with(go_at_call 60;refine(signed_int (h / 2+h % 2) _ (by omega) hq _ _).mono ?_;rintro e w1 ⟨rfl,rfl⟩)
        all_goals go_returns
        all_goals first|exact⟨rfl,HB.out⟩|(refine⟨?_,HB.out⟩;simp_all)
theorem power_down (x n:Int) (hx:Is64 x) (hm:x≠minI) (hz:x≠0) (hn0:n<0) (hn64: -64<=n) (w:World):Rt 171 #[.int .i64 x,.int .i64 n] w (.tuple #[.int .i64 (powX x n).1,.int .i64 (powX x n).2]):=by
 have k1:(x != minI)=true:=by simp[hm]
 obtain⟨k,hk⟩:∃ k:Nat,n= -(k:Int):=⟨(-n).toNat,by omega⟩
 obtain⟨m,hmm⟩:∃ m,x.natAbs=m:=⟨_,rfl⟩
 have hmw:Word m:=by unfold Is64 at hx;unfold Word;omega
 have hm0:0<m:=by omega
 have hp:powX x n=powE (zBk (byL m) k (zBk (zAV 10000) (k+1) [2])) (lowX x&&n % 2 != 0):=by
  unfold powX powL
  rw[if_neg hm,if_neg (show ¬ (n< -64∨64<n) by omega),if_neg (show ¬ n=0 by omega),if_neg (show ¬ (x=0/\n<0) by omega),if_neg (show ¬ 0<n by omega),hmm,show (-n).toNat=k by omega,show (1-n).toNat=k+1 by omega]
 rw[hp]
 obtain⟨R,hR⟩:∃ R,powE (zBk (byL m) k (zBk (zAV 10000) (k+1) [2])) (lowX x&&n % 2 != 0)=R:=⟨_,rfl⟩
 rw[hR]
 have HNK:=zh hk
 have HR:=zh hR
 have HX:=zh hx
 have HM:=zh hmm
 have HMW:=zh hmw
 have HM0:=zh hm0
 have HWD:=zh (iter_by m hm0 _ (zBQ 10000 word1e4 [2] word2 (k+1)).1 k).1
 have hnx:IntKind.i64.wrap (1-n)=(k:Int)+1:=by rw[IntKind.wrap_i64];omega
 have hny:IntKind.i64.wrap (-n)=(k:Int):=by rw[IntKind.wrap_i64];omega
 have hn1: ¬ n< -64:=by omega
 have hn2: ¬ 64<n:=by omega
 have hn4: ¬ 0<n:=by omega
 have hn3: ¬ n=0:=by omega
 have hk64:k<=64:=by omega
 have hz2:(x==0)=false:=by simp[hz]
 have ht:(n.tmod 2 != 0)=(n % 2 != 0):=by
  have h1:=Int.tmod_eq_emod (a:=n) (b:=2)
  rw[Bool.eq_iff_iff]
  simp only[bne_iff_ne,ne_eq]
  split at h1<;>omega
 have HT:=zh ht
 clear hR hx hmm hmw hm0 hp hm hz hk ht
 go_enter Tryz.func171,Tryz.ntmps171
 go_wp2_with(first|(go_at_call 56;refine(zAM _ _).mono ?_;rintro e w1 ⟨rfl,rfl⟩)|(go_at_call 57;refine(zAj x HX.out _).mono ?_;rw[HM.out];rintro e w1 ⟨rfl,rfl⟩))
 go_loopw [57,8] (fun t v wr=>∃ j:Nat,j<=(k+1)/\t=.int .i64 j/\Words wr v (zBk (zAV 10000) j [2])/\Below w.heap.size w wr) (fun t _ _=>(k+1)-(intOf t).toNat)
 case atStart=>exact⟨0,Nat.zero_le _,rfl,words_new rfl,bel⟩
 case round =>
  obtain⟨j,hj,rfl,hW,hB⟩:=hrel
  have HW:=zh hW
  have HB:=zh hB
  have hsz:=hB.size
  clear hW hB
  by_cases hlt:j<(k+1)
  ·have hlt':(j:Int)<(k:Int)+1:=by have:=HNK.out;omega
   have hok:=(show (∀ u∈zBk (zAV 10000) j [2],Word u)/\(zBk (zAV 10000) j [2]).length<=1+j from zBQ 10000 word1e4 [2] word2 j)
   have HO:=zh hok
   clear hok
   go_wp2_with fail
   go_at_call 244
   refine(dec_times 10000 word1e4  _ HO.out.1 (by have h5:=HO.out.2;omega) _ _ HW.out).mono ?_
   rintro e w1 ⟨⟨v1,rfl,hw1⟩,hb1⟩
   have HW1:=zh hw1
   have HB1:=zh (HB.out.trans (hb1.mono hsz))
   clear hw1 hb1
   go_wp2
   go_roundw
   case rel=>exact⟨j+1,by omega,by go_num,HW1.out,HB1.out⟩
   case measure=>simp[intOf];omega
  ·obtain rfl:j=(k+1):=by omega
   have hlt': ¬ (k:Int)+1<(k:Int)+1:=by have:=HNK.out;omega
   clear hlt hj
   have HW0:=zh HW.out
   have HB0:=zh HB.out
   clear HW HB
   go_wp2
   go_loopw [64,8] (fun t v wr=>∃ j:Nat,j<=k/\t=.int .i64 j/\Words wr v (zBk (byL m) j (zBk (zAV 10000) (k+1) [2]))/\Below w.heap.size w wr) (fun t _ _=>k-(intOf t).toNat)
   case atStart=>exact⟨0,Nat.zero_le _,rfl,HW0.out,HB0.out⟩
   case round =>
    obtain⟨j,hj,rfl,hW,hB⟩:=hrel
    have HW:=zh hW
    have HB:=zh hB
    have hsz:=hB.size
    clear hW hB
    by_cases hlt:j<k
    ·have hlt':(j:Int)<(k:Int):=by have:=HNK.out;omega
     have hok:=(show (∀ u∈_,Word u)/\(zBk (byL m) j (zBk (zAV 10000) (k+1) [2])).length<=1000 from by have h1:(∀ u∈zBk (zAV 10000) (k+1) [2],Word u)/\(zBk (zAV 10000) (k+1) [2]).length<=1+(k+1):=zBQ 10000 word1e4 [2] word2 (k+1);have h2:=iter_by m HM0.out _ h1.1 j;exact⟨h2.1,by have:=h1.2;have:=h2.2;omega⟩)
     have HO:=zh hok
     clear hok
     go_wp2_with fail
     go_at_call 245
     refine(dec_by m HMW.out HM0.out  _ HO.out.1 (by have h5:=HO.out.2;omega) _ _ HW.out).mono ?_
     rintro e w1 ⟨⟨v1,rfl,hw1⟩,hb1⟩
     have HW1:=zh hw1
     have HB1:=zh (HB.out.trans (hb1.mono hsz))
     clear hw1 hb1
     go_wp2
     go_roundw
     case rel=>exact⟨j+1,by omega,by go_num,HW1.out,HB1.out⟩
     case measure=>simp[intOf];omega
    ·obtain rfl:j=k:=by omega
     have hlt': ¬ (j:Int)<(j:Int):=by have:=HNK.out;omega
     clear hlt hj
     have hR:=HR.out
     obtain⟨H,hH⟩:∃ H,zBk (byL m) j (zBk (zAV 10000) (j+1) [2])=H:=⟨_,rfl⟩
     rw[hH] at hR
     have hw:=HW.out
     rw[hH] at hw
     obtain⟨A,c,rfl,hrd⟩:=hw
     have hword:∀ u∈H,Word u:=by rw[<- hH];exact HWD.out
     clear HR HW hH HWD
     unfold powE at hR
     by_cases h1:1<H.length
     ·have h1':(1:Int)<(H.length:Int):=by omega
      rw[if_pos h1] at hR
      subst hR
      clear hrd
      go_wp2
      go_returns
      exact⟨rfl,HB.out⟩
     ·have h1': ¬ (1:Int)<(H.length:Int):=by omega
      rw[if_neg h1] at hR
      have hh:Word (H.headD 0):=by
       cases H with
       | nil=>exact(by decide:0<18446744073709551616)
       | cons a t=>exact hword a (List.mem_cons_self ..)
      obtain⟨h,hhd⟩:∃ h,H.headD 0=h:=⟨_,rfl⟩
      rw[hhd] at hR hh
      have HH:=zh hh
      have hq:h / 2+h % 2<18446744073709551616:=by unfold Word at hh;omega
      have HHD:=zh hhd
      have HRD:=zh hrd
      have HRR:=zh hR
      unfold Word at hh
      clear hhd hrd hword hR
      go_wp2
      go_loop [75,9] (fun t u=>∃ j:Nat,j<=H.length/\t=.int .i64 j/\((j=0/\u=.int .u64 0)∨(0<j/\u=.int .u64 (h:Int)))) (fun t _=>H.length-(intOf t).toNat)
      case atStart=>exact⟨0,Nat.zero_le _,rfl,.inl ⟨rfl,rfl⟩⟩
      case round =>
       obtain⟨j,hj,rfl,hu⟩:=hrel
       by_cases hlt:j<H.length
       ·obtain rfl:j=0:=by omega
        obtain rfl:=(hu.resolve_right (by omega)).2
        obtain⟨b,off,rfl,_,hc⟩:=HRD.out.2 hlt
        have c0:=hc 0 _ (show (U H)[0]? =some (.int .u64 (h:Int)) by have:=HHD.out;cases H with|nil=>simp at hlt|cons a t=>simp at this;simp[U,this])
        clear hc hu
        rw[Nat.add_zero] at c0
        go_wp2
        go_round
        case rel=>exact⟨1,by omega,by go_num,.inr ⟨by omega,rfl⟩⟩
        case measure=>simp[intOf];omega
       ·have hjh:j=H.length:=by omega
        have hu3:u9=.int .u64 (h:Int):=by
         rcases hu with ⟨h0,e⟩|⟨_,e⟩
         ·have h5:H=[]:=by cases H with|nil=>rfl|cons a t=>simp at hjh;omega
          have h6:=HHD.out
          rw[h5] at h6
          rw[e,<-h6]
          rfl
         ·exact e
        subst hu3
        clear hu hlt hj HHD HRD
        obtain⟨lb,hlb⟩:∃ lb,lowX x=lb:=⟨_,rfl⟩
        have hRR:=HRR.out
        rw[hlb] at hRR
        subst hRR
        rw[hlb]
        clear hlb
        have ht:=HT.out
        cases lb
        all_goals go_wp2_with(go_at_call 60;refine(signed_int (h / 2+h % 2) _ (by omega) hq _ _).mono ?_;rintro e w1 ⟨rfl,rfl⟩)
        all_goals go_returns
        all_goals first|exact⟨rfl,HB.out⟩|(refine⟨?_,HB.out⟩;simp_all)
theorem dec_Power (x n:Int) (hx:Is64 x) (hn:Is64 n) (w:World):Rt 171 #[.int .i64 x,.int .i64 n] w (.tuple #[.int .i64 (powX x n).1,.int .i64 (powX x n).2]):=by
 by_cases hm:x=minI
 ·have e:powX x n=(0,2):=if_pos hm
  have k1:(x != minI)=false:=by simp[hm]
  rw[e]
  clear hx hm e
  go_enter Tryz.func171,Tryz.ntmps171
  go_wp2_with(go_at_call 56;refine(zAM _ _).mono ?_;rintro e w1 ⟨rfl,rfl⟩)
  go_returns
  exact⟨rfl,bel⟩
 ·have k1:(x != minI)=true:=by simp[hm]
  by_cases hr:n< -64∨64<n
  ·have e:powX x n=(0,8):=by unfold powX;rw[if_neg hm,if_pos hr]
   rw[e]
   by_cases hlo:n< -64
   ·clear hx hm e hr
    go_enter Tryz.func171,Tryz.ntmps171
    go_wp2_with(go_at_call 56;refine(zAM _ _).mono ?_;rintro e w1 ⟨rfl,rfl⟩)
    go_returns
    exact⟨rfl,bel⟩
   ·have hhi:64<n:=by omega
    clear hx hm e hr
    go_enter Tryz.func171,Tryz.ntmps171
    go_wp2_with(go_at_call 56;refine(zAM _ _).mono ?_;rintro e w1 ⟨rfl,rfl⟩)
    go_returns
    exact⟨rfl,bel⟩
  ·have hlo: ¬ n< -64:=by omega
   have hhi: ¬ 64<n:=by omega
   by_cases h0:n=0
   ·have e:powX x n=(10000,0):=by unfold powX;rw[if_neg hm,if_neg hr,if_pos h0]
    rw[e]
    clear hx hm e hr
    go_enter Tryz.func171,Tryz.ntmps171
    go_wp2_with(go_at_call 56;refine(zAM _ _).mono ?_;rintro e w1 ⟨rfl,rfl⟩)
    go_returns
    exact⟨rfl,bel⟩
   ·by_cases hz:x=0
    ·subst hz
     by_cases hneg:n<0
     ·have e:powX 0 n=(0,3):=by unfold powX;rw[if_neg hm,if_neg hr,if_neg h0,if_pos ⟨rfl,hneg⟩]
      rw[e]
      clear hx hm e hr
      go_enter Tryz.func171,Tryz.ntmps171
      go_wp2_with(go_at_call 56;refine(zAM _ _).mono ?_;rintro e w1 ⟨rfl,rfl⟩)
      go_returns
      exact⟨rfl,bel⟩
     ·exact power_nought n (by omega) (by omega) w
    ·by_cases hneg:n<0
     ·exact power_down x n hx hm hz hneg (by omega) w
     ·exact power_up x n hx hm hz (by omega) (by omega) w
def truncX (x n:Int):Int:=if 3<n then x else if n< -14 then 0 else x.tdiv (10 ^ (4-n).toNat)*10 ^ (4-n).toNat
theorem pow10_lt (j:Nat) (h:j<=18):(10:Int) ^ j<=1000000000000000000:=by
 have:j=0∨j=1∨j=2∨j=3∨j=4∨j=5∨j=6∨j=7∨j=8∨j=9∨j=10∨j=11∨j=12∨j=13∨j=14∨j=15∨j=16∨j=17∨j=18:=by omega
 rcases this with rfl|rfl|rfl|rfl|rfl|rfl|rfl|rfl|rfl|rfl|rfl|rfl|rfl|rfl|rfl|rfl|rfl|rfl|rfl<;>decide
theorem pow10_lt19 (j:Nat) (h:j<=19):(10:Nat) ^ j<=10000000000000000000:=by
 have:j<=18∨j=19:=by omega
 rcases this with h|rfl
 ·have h1:=pow10_lt j h
  have h2:((10 ^ j:Nat):Int)=(10:Int) ^ j:=by norm_cast
  omega
 ·decide
theorem pow10_pos (j:Nat):1<=(10:Int) ^ j:=by
 have:0<(10:Int) ^ j:=Int.pow_pos (by decide)
 omega
theorem nums_trunc (x n:Int) (hx:In63 x) (hn:Is64 n) (w:World):Calls Tryz.prog 163 #[.int .i64 x,.int .i64 n] w fun e w'=>e=.returned (.tuple #[.int .i64 (truncX x n),.int .i64 0])/\w=w':=by
 unfold truncX
 by_cases h1:3<n
 ·rw[if_pos h1]
  go_enter Tryz.func163,Tryz.ntmps163
  go_wp2
  go_returns
  exact⟨rfl,rfl⟩
 ·rw[if_neg h1]
  by_cases h2:n< -14
  ·rw[if_pos h2]
   go_enter Tryz.func163,Tryz.ntmps163
   go_wp2
   go_returns
   exact⟨rfl,rfl⟩
  ·rw[if_neg h2]
   obtain⟨m,hm⟩:∃ m:Nat,(4-n).toNat=m:=⟨_,rfl⟩
   have hm2:IntKind.i64.wrap (4-n)=m:=by rw[IntKind.wrap_i64];omega
   have hm18:m<=18:=by omega
   rw[hm]
   clear hn hm
   unfold In63 at hx
   have HX:=zh hx
   clear hx
   go_enter Tryz.func163,Tryz.ntmps163
   go_wp2
   go_loop [14,6] (fun t u=>∃ j:Nat,j<=m/\t=.int .i64 j/\u=.int .i64 (10 ^ j)) (fun t _=>m-(intOf t).toNat)
   case atStart=>exact⟨0,Nat.zero_le _,rfl,rfl⟩
   case round =>
    obtain⟨j,hj,rfl,rfl⟩:=hrel
    by_cases hlt:j<m
    ·have hp:=pow10_lt (j+1) (by omega)
     have hp0:=pow10_pos j
     have hs:(10:Int) ^ (j+1)=10 ^ j*10:=Int.pow_succ _ _
     have hw:IntKind.i64.wrap ((10:Int) ^ j*10)=10 ^ (j+1):=by rw[IntKind.wrap_i64,hs];omega
     go_wp2
     go_round
     case rel=>exact⟨j+1,by omega,by go_num,by first|rfl|rw[hw]⟩
     case measure=>simp[intOf];omega
    ·obtain rfl:j=m:=by omega
     have hp:=pow10_lt j hm18
     have hp0:=pow10_pos j
     obtain⟨u,hu⟩:∃ u,(10:Int) ^ j=u:=⟨_,rfl⟩
     rw[hu] at hp hp0 ⊢
     have hne:u≠0:=by omega
     have hq:(x.tdiv u*u).natAbs<=x.natAbs:=by rw[Int.natAbs_mul,Int.natAbs_tdiv];exact Nat.div_mul_le_self _ _
     have hX:=HX.out
     have hq1:(x.tdiv u).natAbs<=x.natAbs:=by rw[Int.natAbs_tdiv];exact Nat.div_le_self _ _
     have hw:wrap64 (x.tdiv u*u)=x.tdiv u*u:=by unfold wrap64;omega
     have hw1:wrap64 (x.tdiv u)=x.tdiv u:=by unfold wrap64;omega
     clear hX hq hq1
     go_wp2
     go_returns
     exact⟨by simp only[hw1,hw];rfl,rfl⟩
def upN (n u:Nat):Nat:=if u-n % u<=n % u then n / u+1 else n / u
def roundN (n u:Nat) (low:Bool):Int×Int:=if 18446744073709551616<=upN n u*u then (0,2) else signX (upN n u*u) low
def roundX (x p:Int):Int×Int:=if x=minI then (0,2) else if 4<=p then (x,0) else if p< -15 then (0,0) else roundN x.natAbs (10 ^ (4-p).toNat) (lowX x)
theorem dec_Round (x p:Int) (hx:Is64 x) (hn:Is64 p) (w:World):Rt 164 #[.int .i64 x,.int .i64 p] w (.tuple #[.int .i64 (roundX x p).1,.int .i64 (roundX x p).2]):=by
 unfold roundX
 by_cases h0:x=minI
 ·rw[if_pos h0]
  have k1:(x != minI)=false:=by simp[h0]
  clear h0
  go_enter Tryz.func164,Tryz.ntmps164
  go_wp2_with(go_at_call 56;refine(zAM _ _).mono ?_;rintro e w1 ⟨rfl,rfl⟩)
  go_returns
  exact⟨rfl,bel⟩
 ·rw[if_neg h0]
  have k1:(x != minI)=true:=by simp[h0]
  by_cases h1:4<=p
  ·rw[if_pos h1]
   clear h0
   go_enter Tryz.func164,Tryz.ntmps164
   go_wp2_with(go_at_call 56;refine(zAM _ _).mono ?_;rintro e w1 ⟨rfl,rfl⟩)
   go_returns
   exact⟨rfl,bel⟩
  ·rw[if_neg h1]
   by_cases h2:p< -15
   ·rw[if_pos h2]
    clear h0
    go_enter Tryz.func164,Tryz.ntmps164
    go_wp2_with(go_at_call 56;refine(zAM _ _).mono ?_;rintro e w1 ⟨rfl,rfl⟩)
    go_returns
    exact⟨rfl,bel⟩
   ·rw[if_neg h2]
    obtain⟨m,hm⟩:∃ m:Nat,(4-p).toNat=m:=⟨_,rfl⟩
    have hm2:IntKind.i64.wrap (4-p)=m:=by rw[IntKind.wrap_i64];omega
    have hm19:m<=19:=by omega
    rw[hm]
    obtain⟨n,hnn⟩:∃ n,x.natAbs=n:=⟨_,rfl⟩
    have hn63:n<=9223372036854775808:=by unfold Is64 at hx;omega
    rw[hnn]
    obtain⟨R,hR⟩:∃ R,roundN n (10 ^ m) (lowX x)=R:=⟨_,rfl⟩
    rw[hR]
    have HX:=zh hx
    have HN:=zh hnn
    have HR:=zh hR
    clear hn hm hx h0 hnn hR
    go_enter Tryz.func164,Tryz.ntmps164
    go_wp2_with(go_at_call 56;refine(zAM _ _).mono ?_;rintro e w1 ⟨rfl,rfl⟩)
    go_loop [25,6] (fun t u=>∃ j:Nat,j<=m/\t=.int .i64 j/\u=.int .u64 ((10 ^ j:Nat):Int)) (fun t _=>m-(intOf t).toNat)
    case atStart=>exact⟨0,Nat.zero_le _,rfl,rfl⟩
    case round =>
     obtain⟨j,hj,rfl,rfl⟩:=hrel
     by_cases hlt:j<m
     ·have hp:=pow10_lt19 (j+1) (by omega)
      have hs:(10:Nat) ^ (j+1)=10 ^ j*10:=Nat.pow_succ _ _
      obtain⟨v,hv⟩:∃ v,(10:Nat) ^ j=v:=⟨_,rfl⟩
      rw[hs,hv] at hp
      have hw:IntKind.u64.wrap ((v:Int)*10)=((v*10:Nat):Int):=by rw[IntKind.wrap_u64];omega
      rw[hv]
      go_wp2
      go_round
      case rel=>exact⟨j+1,by omega,by go_num,by rw[hs,hv];first|rfl|(rw[hw];done)|go_num⟩
      case measure=>simp[intOf];omega
     ·obtain rfl:j=m:=by omega
      have hp:=pow10_lt19 j hm19
      have hp0:0<10 ^ j:=Nat.pow_pos (by decide)
      obtain⟨u,hu⟩:∃ u,(10:Nat) ^ j=u:=⟨_,rfl⟩
      rw[hu] at hp hp0 ⊢
      have hne:(u:Int)≠0:=by omega
      obtain⟨q,hq⟩:∃ q,n / u=q:=⟨_,rfl⟩
      obtain⟨r,hr⟩:∃ r,n % u=r:=⟨_,rfl⟩
      have hq1:(n:Int) / (u:Int)=(q:Int):=by rw[<- hq];rfl
      have hr1:(n:Int) % (u:Int)=(r:Int):=by rw[<- hr];rfl
      have hq2:(n:Int).tdiv (u:Int)=(q:Int):=by rw[<- hq];rfl
      have hr2:(n:Int).tmod (u:Int)=(r:Int):=by rw[<- hr];rfl
      have hru:r<u:=by rw[<- hr];exact Nat.mod_lt _ hp0
      have hqn:q<=n:=by rw[<- hq];exact Nat.div_le_self _ _
      have hw1:IntKind.u64.wrap (q:Int)=q:=by rw[IntKind.wrap_u64];omega
      have hw2:IntKind.u64.wrap ((u:Int)-(r:Int))=((u-r:Nat):Int):=by rw[IntKind.wrap_u64];omega
      have hw3:IntKind.u64.wrap ((q:Int)+1)=((q+1:Nat):Int):=by rw[IntKind.wrap_u64];omega
      have hup:upN n u=if u-r<=r then q+1 else q:=by unfold upN;rw[hq,hr]
      obtain⟨s,hs⟩:∃ s,upN n u=s:=⟨_,rfl⟩
      have hrn:R=if 18446744073709551616<=s*u then (0,2) else signX (s*u) (lowX x):=by rw[<- HR.out,hu];unfold roundN;rw[hs]
      rw[hs] at hup
      have hs64:s<18446744073709551616:=by rw[hup];split<;>omega
      have hss:s=if u-r<=r then q+1 else q:=hup
      obtain⟨hi,hhi⟩:∃ hi,s*u / 18446744073709551616=hi:=⟨_,rfl⟩
      obtain⟨lo,hlo⟩:∃ lo,s*u % 18446744073709551616=lo:=⟨_,rfl⟩
      have HHI:=zh hhi
      have HLO:=zh hlo
      have US:=zh (show u<18446744073709551616 by omega)
      have HS:=zh hs64
      clear hq hr hs hup HR
      by_cases hc:u-r<=r
      ·rw[if_pos hc] at hss
       have hc':((u-r:Nat):Int)<=(r:Int):=by omega
       have hqs:(q:Int)+1=(s:Int):=by omega
       clear hw3 hss
       by_cases hov:18446744073709551616<=s*u
       ·rw[if_pos hov] at hrn
        have hd:(0:Int)<(hi:Int):=by have:=Nat.div_pos hov (by decide);omega
        subst hrn
        clear hov hhi hlo hs64
        go_wp2_with fail
        go_at_call 57
        refine(zAj x HX.out _).mono ?_
        rw[HN.out]
        rintro e w1 ⟨rfl,rfl⟩
        go_wp2_with fail
        go_quiet (fail)
        all_goals go_wp2_with(go_at_call 58;(try rw[hqs]);refine(Tryz.bits_Mul64 s u HS.out US.out _).mono ?_;rw[HHI.out,HLO.out];rintro e w1 ⟨rfl,rfl⟩)
        all_goals go_returns
        all_goals exact⟨rfl,bel⟩
       ·rw[if_neg hov] at hrn
        have hd0:s*u / 18446744073709551616=0:=Nat.div_eq_of_lt (by omega)
        have hd: ¬ (0:Int)<(hi:Int):=by omega
        have hmod:s*u % 18446744073709551616=s*u:=Nat.mod_eq_of_lt (by omega)
        have hlo2:s*u=lo:=by omega
        have hlt2:lo<18446744073709551616:=by omega
        rw[hlo2] at hrn
        subst hrn
        clear hov hhi hlo hs64 hd0 hmod hlo2
        go_wp2_with fail
        go_at_call 57
        refine(zAj x HX.out _).mono ?_
        rw[HN.out]
        rintro e w1 ⟨rfl,rfl⟩
        go_wp2_with fail
        go_quiet (fail)
        all_goals go_wp2_with(first|(go_at_call 58;(try rw[hqs]);refine(Tryz.bits_Mul64 s u HS.out US.out _).mono ?_;rw[HHI.out,HLO.out];rintro e w1 ⟨rfl,rfl⟩)|(go_at_call 60;refine(zBO lo hlt2 _ _).mono ?_;rintro e w1 ⟨rfl,rfl⟩))
        all_goals go_returns
        all_goals exact⟨rfl,bel⟩
      ·rw[if_neg hc] at hss
       have hc': ¬ ((u-r:Nat):Int)<=(r:Int):=by omega
       subst hss
       by_cases hov:18446744073709551616<=s*u
       ·rw[if_pos hov] at hrn
        have hd:(0:Int)<(hi:Int):=by have:=Nat.div_pos hov (by decide);omega
        subst hrn
        clear hov hhi hlo hs64
        go_wp2_with fail
        go_at_call 57
        refine(zAj x HX.out _).mono ?_
        rw[HN.out]
        rintro e w1 ⟨rfl,rfl⟩
        go_wp2_with fail
        go_quiet (fail)
        all_goals go_wp2_with(go_at_call 58;(try rw[hqs]);refine(Tryz.bits_Mul64 s u HS.out US.out _).mono ?_;rw[HHI.out,HLO.out];rintro e w1 ⟨rfl,rfl⟩)
        all_goals go_returns
        all_goals exact⟨rfl,bel⟩
       ·rw[if_neg hov] at hrn
        have hd0:s*u / 18446744073709551616=0:=Nat.div_eq_of_lt (by omega)
        have hd: ¬ (0:Int)<(hi:Int):=by omega
        have hmod:s*u % 18446744073709551616=s*u:=Nat.mod_eq_of_lt (by omega)
        have hlo2:s*u=lo:=by omega
        have hlt2:lo<18446744073709551616:=by omega
        rw[hlo2] at hrn
        subst hrn
        clear hov hhi hlo hs64 hd0 hmod hlo2
        go_wp2_with fail
        go_at_call 57
        refine(zAj x HX.out _).mono ?_
        rw[HN.out]
        rintro e w1 ⟨rfl,rfl⟩
        go_wp2_with fail
        go_quiet (fail)
        all_goals go_wp2_with(first|(go_at_call 58;(try rw[hqs]);refine(Tryz.bits_Mul64 s u HS.out US.out _).mono ?_;rw[HHI.out,HLO.out];rintro e w1 ⟨rfl,rfl⟩)|(go_at_call 60;refine(zBO lo hlt2 _ _).mono ?_;rintro e w1 ⟨rfl,rfl⟩))
        all_goals go_returns
        all_goals exact⟨rfl,bel⟩
def fac:Nat->Nat
 | 0=>1
 | n+1=>fac n*(n+1)
theorem fac_mono {m n:Nat} (h:m<=n):fac m<=fac n:=by
 induction h with
 | refl=>exact Nat.le_refl _
 | @step k _ ih=>exact Nat.le_trans ih (Nat.le_mul_of_pos_right _ (Nat.succ_pos k))
theorem fac_small {i:Nat} (h:fac i<=922337203685477):i<=17:=by
 rcases Nat.lt_or_ge 17 i with h1|h1
 ·have h2:fac 18<=fac i:=fac_mono h1
  have h3:fac 18=6402373705728000:=by decide
  omega
 ·exact h1
def factX (x:Int):V:=if (zAL x).2=false∨(zAL x).1<0 then errG 8 else wholeX (fac (zAL x).1.toNat) false
theorem whole_64 (x:Int) (hx:Is64 x): -922337203685478<=(zAL x).1/\(zAL x).1<=922337203685478:=by
 unfold zAL
 unfold Is64 at hx
 have h1:(x.tdiv 10000).natAbs=x.natAbs / 10000:=Int.natAbs_tdiv x 10000
 split
 ·exact⟨by simp,by simp⟩
 ·dsimp only[vG]
  omega
theorem nums_fact (x:Int) (hx:Is64 x) (g c:Nat) (w:World) (h0:w.cell? ⟨g,0,none⟩=some (.int .i64 x)):Rt 176 #[.slice (some ⟨g,0,none⟩) 1 c] w (vG (factX x)):=by
 have hl:=cltK h0
 have HX:=zh hx
 have hr:=whole_64 x hx
 clear hx
 obtain⟨n,hn⟩:∃ n,(zAL x).1=n:=⟨_,rfl⟩
 obtain⟨b,hb⟩:∃ b,(zAL x).2=b:=⟨_,rfl⟩
 unfold factX
 rw[hn,hb]
 rw[hn] at hr
 have HN:=zh hn
 have HB:=zh hb
 clear hn hb
 by_cases h:b=false∨n<0
 ·rw[if_pos h]
  cases b
  ·go_enter Tryz.func176,Tryz.ntmps176
   go_wp2_with(first|(go_at_call 134;refine(zAs x HX.out.1 HX.out.2 _).mono ?_;rw[HN.out,HB.out];rintro e w1 ⟨rfl,rfl⟩)|(go_at_call 21;refine mB (zA3 _ _) ?_;intro l m))
   all_goals go_returns
   all_goals exact⟨rfl,bel⟩
  ·have h':n<0:=by simpa using h
   clear h
   go_enter Tryz.func176,Tryz.ntmps176
   go_wp2_with(first|(go_at_call 134;refine(zAs x HX.out.1 HX.out.2 _).mono ?_;rw[HN.out,HB.out];rintro e w1 ⟨rfl,rfl⟩)|(go_at_call 21;refine mB (zA3 _ _) ?_;intro l m))
   all_goals go_returns
   all_goals exact⟨rfl,bel⟩
 ·rw[if_neg h]
  have hb':b=true:=by cases b<;>simp_all
  have h': ¬ n<0:=fun e=>h (.inr e)
  subst hb'
  clear h
  obtain⟨k,hk⟩:∃ k:Nat,n=k:=⟨n.toNat,by omega⟩
  subst hk
  rw[Int.toNat_natCast]
  obtain⟨R,hR⟩:∃ R,wholeX (fac k) false=R:=⟨_,rfl⟩
  rw[hR]
  have HR:=zh hR
  clear hR
  go_enter Tryz.func176,Tryz.ntmps176
  go_wp2_with(go_at_call 134;refine(zAs x HX.out.1 HX.out.2 _).mono ?_;rw[HN.out,HB.out];rintro e w1 ⟨rfl,rfl⟩)
  go_loop [6,5] (fun t u=>∃ i:Nat,1<=i/\(i<=k∨i=1)/\t=.int .i64 ((i+1:Nat):Int)/\u=.int .u64 ((fac i:Nat):Int)/\fac i<=922337203685477) (fun t _=>k+1-(intOf t).toNat)
  case atStart=>exact⟨1,by omega,by omega,rfl,rfl,by decide⟩
  case round =>
   obtain⟨i,hi,hik,rfl,rfl,hf⟩:=hrel
   have hs:=fac_small hf
   by_cases hlt:i+1<=k
   ·have hlt':((i+1:Nat):Int)<=(k:Int):=by omega
    have hm:fac (i+1)=fac i*(i+1):=rfl
    obtain⟨f,hff⟩:∃ f,fac i=f:=⟨_,rfl⟩
    obtain⟨f2,hff2⟩:∃ f2,fac (i+1)=f2:=⟨_,rfl⟩
    have hb1:f*(i+1)<=922337203685477*18:=Nat.mul_le_mul (by omega) (by omega)
    obtain⟨q,hq⟩:∃ q,i+1=q:=⟨_,rfl⟩
    rw[hff,hff2] at hm
    rw[hff]
    rw[hq] at hm hb1 hlt' ⊢
    have hm':(f:Int)*(q:Int)=(f2:Int):=by rw[hm];simp
    have hf2:f2<18446744073709551616:=by omega
    have hf1:f<=922337203685477:=by omega
    have hq1:q<=18:=by omega
    have hq2:2<=q:=by omega
    have HF:=zh hff2
    have HQ:=zh hq
    have HT:=zh hlt
    have HI:=zh hi
    have hu:IntKind.u64.wrap (q:Int)=q:=by rw[IntKind.wrap_u64];omega
    have hu2:IntKind.u64.wrap (f2:Int)=f2:=by rw[IntKind.wrap_u64];omega
    by_cases ho:922337203685477<f2
    ·have ho':(922337203685477:Int)<(f2:Int):=by omega
     have hR2:R=errG 2:=by
      rw[<- HR.out]
      have h5:f2<=fac k:=by rw[<- hff2];exact fac_mono hlt
      unfold wholeX
      rw[if_pos (by omega)]
     subst hR2
     clear HR hm hff hff2 hq hb1 hf hs hi hik hlt ho
     go_wp2_with(go_at_call 21;refine mB (zA3 _ _) ?_;intro l m)
     go_returns
     exact⟨rfl,bel⟩
    ·have ho': ¬ (922337203685477:Int)<(f2:Int):=by omega
     clear hm hff hff2 hq hb1 hf hs hi hik hlt ho
     go_wp2
     go_round
     case rel =>
      have hq':=HQ.out
      have hf':=HF.out
      have ht':=HT.out
      have ho2:f2<=922337203685477:=by omega
      exact⟨i+1,by omega,by omega,by go_num,by rw[hf'],by omega⟩
     case measure=>have hq':=HQ.out;simp[intOf];omega
   ·have hlt': ¬ ((i+1:Nat):Int)<=(k:Int):=by omega
    have hR2:R=wholeX (fac i) false:=by
     rw[<- HR.out]
     have:fac k=fac i:=by
      rcases hik with h|h
      ·have:i=k:=by omega
       rw[this]
      ·subst h
       have:k=0∨k=1:=by omega
       rcases this with rfl|rfl<;>rfl
     rw[this]
    subst hR2
    clear HR
    go_wp2_with(go_at_call 242;refine mB (nums_whole (fac i) (by omega) false _) ?_;intro l m)
    go_returns
    exact⟨rfl,bel⟩
def bitN (j:Nat):Nat:=1099511627776 / 2 ^ j
def sqN (N:Nat):Nat->Nat
 | 0=>0
 | j+1=>if (sqN N j+bitN j)*(sqN N j+bitN j)<=N then sqN N j+bitN j else sqN N j
theorem bit_half (j:Nat):bitN (j+1)=bitN j / 2:=by
 unfold bitN
 rw[Nat.pow_succ,Nat.div_div_eq_div_mul]
theorem bit_zero (j:Nat) (h:41<=j):bitN j=0:=by
 unfold bitN
 refine Nat.div_eq_of_lt ?_
 calc 1099511627776<2 ^ 41:=by decide
  _<=2 ^ j:=Nat.pow_le_pow_right (by decide) h
theorem bit_pos (j:Nat) (h:j<41):0<bitN j:=by
 unfold bitN
 refine Nat.div_pos ?_ (Nat.pow_pos (by decide))
 calc 2 ^ j<=2 ^ 40:=Nat.pow_le_pow_right (by decide) (by omega)
  _=1099511627776:=by decide
theorem sq_lt (N:Nat):∀ j,j<=41->sqN N j+2*bitN j<=2199023255552
 | 0,_=>by show 0+2*bitN 0<=2199023255552;decide
 | j+1,h=>by
   have ih:=sq_lt N j (by omega)
   have hb:=bit_half j
   unfold sqN
   split<;>omega
def sqrtX (x:Int):Int×Int:=if x=minI then (0,2) else if x<0 then (0,8) else (((sqN (x.toNat*40000) 41+1) / 2:Nat),0)
theorem dec_Sqrt (x:Int) (hx:Is64 x) (w:World):Rt 173 #[.int .i64 x] w (.tuple #[.int .i64 (sqrtX x).1,.int .i64 (sqrtX x).2]):=by
 unfold sqrtX
 by_cases h0:x=minI
 ·rw[if_pos h0]
  have k1:(x != minI)=false:=by simp[h0]
  clear h0
  go_enter Tryz.func173,Tryz.ntmps173
  go_wp2_with(go_at_call 56;refine(zAM _ _).mono ?_;rintro e w1 ⟨rfl,rfl⟩)
  go_returns
  exact⟨rfl,bel⟩
 ·rw[if_neg h0]
  have k1:(x != minI)=true:=by simp[h0]
  by_cases h1:x<0
  ·rw[if_pos h1]
   clear h0
   go_enter Tryz.func173,Tryz.ntmps173
   go_wp2_with(go_at_call 56;refine(zAM _ _).mono ?_;rintro e w1 ⟨rfl,rfl⟩)
   go_returns
   exact⟨rfl,bel⟩
  ·rw[if_neg h1]
   obtain⟨n,hn⟩:∃ n:Nat,x=n:=⟨x.toNat,by omega⟩
   subst hn
   have hn63:n<=9223372036854775807:=by unfold Is64 at hx;omega
   rw[Int.toNat_natCast]
   obtain⟨N,hN⟩:∃ N,n*40000=N:=⟨_,rfl⟩
   rw[hN]
   obtain⟨hi,hhi⟩:∃ hi,N / 18446744073709551616=hi:=⟨_,rfl⟩
   obtain⟨lo,hlo⟩:∃ lo,N % 18446744073709551616=lo:=⟨_,rfl⟩
   obtain⟨R,hR⟩:∃ R,(sqN N 41+1) / 2=R:=⟨_,rfl⟩
   rw[hR]
   have HR:=zh hR
   have HN:=zh hN
   have HHI:=zh hhi
   have HLO:=zh hlo
   have H63:=zh hn63
   have hu:IntKind.u64.wrap (n:Int)=n:=by rw[IntKind.wrap_u64];omega
   clear hR hN hhi hlo hn63 hx h0
   go_enter Tryz.func173,Tryz.ntmps173
   go_wp2_with(first|(go_at_call 56;refine(zAM _ _).mono ?_;rintro e w1 ⟨rfl,rfl⟩)|(go_at_call 58;refine(Tryz.bits_Mul64 n 40000 (by have:=H63.out;omega) (by decide) _).mono ?_;rw[HN.out,HHI.out,HLO.out];rintro e w1 ⟨rfl,rfl⟩))
   go_loop [7,6] (fun t u=>∃ j:Nat,j<=41/\t=.int .u64 ((bitN j:Nat):Int)/\u=.int .u64 ((sqN N j:Nat):Int)) (fun t _=>(intOf t).toNat)
   case atStart=>exact⟨0,by omega,rfl,rfl⟩
   case round =>
    obtain⟨j,hj,rfl,rfl⟩:=hrel
    by_cases hlt:j<41
    ·have hb:=bit_pos j hlt
     have hh:=bit_half j
     have hs:=sq_lt N j hj
     have hq:sqN N (j+1)=if (sqN N j+bitN j)*(sqN N j+bitN j)<=N then sqN N j+bitN j else sqN N j:=rfl
     obtain⟨b,hbb⟩:∃ b,bitN j=b:=⟨_,rfl⟩
     obtain⟨h,hhh⟩:∃ h,sqN N j=h:=⟨_,rfl⟩
     obtain⟨b2,hb2⟩:∃ b2,bitN (j+1)=b2:=⟨_,rfl⟩
     obtain⟨h2,hh2⟩:∃ h2,sqN N (j+1)=h2:=⟨_,rfl⟩
     rw[hbb,hhh] at hs hq
     rw[hbb] at hb
     rw[hbb,hb2] at hh
     rw[hh2] at hq
     rw[hbb,hhh]
     have HB2:=zh hb2
     have HH2:=zh hh2
     obtain⟨s,hss⟩:∃ s,h+b=s:=⟨_,rfl⟩
     rw[hss] at hq
     have hs1:s<=2199023255552:=by omega
     obtain⟨p1,hp1⟩:∃ p,s*s / 18446744073709551616=p:=⟨_,rfl⟩
     obtain⟨p0,hp0⟩:∃ p,s*s % 18446744073709551616=p:=⟨_,rfl⟩
     have HP1:=zh hp1
     have HP0:=zh hp0
     have HS:=zh (show s<18446744073709551616 by omega)
     have hcmp:(s*s<=N) ↔ (p1<hi∨p1=hi/\p0<=lo):=by
      have e1:=HHI.out
      have e2:=HLO.out
      constructor<;>intro h<;>omega
     have hb0:(0:Int)<(b:Int):=by omega
     have hhb:(h:Int)+(b:Int)=(s:Int):=by omega
     clear hbb hhh hb2 hh2 hp1 hp0
     by_cases ha:p1<hi
     ·have ha':(p1:Int)<(hi:Int):=by omega
      rw[if_pos (hcmp.2 (.inl ha))] at hq
      have HV:=zh (show h2=s from hq)
      clear hq
      go_wp2_with(go_at_call 58;refine(Tryz.bits_Mul64 s s HS.out HS.out _).mono ?_;rw[HP1.out,HP0.out];rintro e w1 ⟨rfl,rfl⟩)
      go_round
      case rel=>exact⟨j+1,by omega,by rw[HB2.out,hh];first|rfl|go_num,by rw[HH2.out,HV.out]⟩
      case measure=>simp[intOf];omega
     ·have ha': ¬ (p1:Int)<(hi:Int):=by omega
      by_cases he:p1=hi
      ·by_cases hl:p0<=lo
       ·have hl':(p0:Int)<=(lo:Int):=by omega
        rw[if_pos (hcmp.2 (.inr ⟨he,hl⟩))] at hq
        subst he
        clear hcmp
        have HV:=zh (show h2=s from hq)
        clear hq
        go_wp2_with(go_at_call 58;refine(Tryz.bits_Mul64 s s HS.out HS.out _).mono ?_;rw[HP1.out,HP0.out];rintro e w1 ⟨rfl,rfl⟩)
        go_round
        case rel=>exact⟨j+1,by omega,by rw[HB2.out,hh];first|rfl|go_num,by rw[HH2.out,HV.out]⟩
        case measure=>simp[intOf];omega
       ·have hl': ¬ (p0:Int)<=(lo:Int):=by omega
        rw[if_neg (fun h=>(hcmp.1 h).elim ha (fun h=>hl h.2))] at hq
        subst he
        clear hcmp
        have HV:=zh (show h2=h from hq)
        clear hq
        go_wp2_with(go_at_call 58;refine(Tryz.bits_Mul64 s s HS.out HS.out _).mono ?_;rw[HP1.out,HP0.out];rintro e w1 ⟨rfl,rfl⟩)
        go_round
        case rel=>exact⟨j+1,by omega,by rw[HB2.out,hh];first|rfl|go_num,by rw[HH2.out,HV.out]⟩
        case measure=>simp[intOf];omega
      ·have he': ¬ (p1:Int)=(hi:Int):=by omega
       rw[if_neg (fun h=>(hcmp.1 h).elim ha (fun h=>he h.1))] at hq
       have HV:=zh (show h2=h from hq)
       clear hq
       go_wp2_with(go_at_call 58;refine(Tryz.bits_Mul64 s s HS.out HS.out _).mono ?_;rw[HP1.out,HP0.out];rintro e w1 ⟨rfl,rfl⟩)
       go_round
       case rel=>exact⟨j+1,by omega,by rw[HB2.out,hh];first|rfl|go_num,by rw[HH2.out,HV.out]⟩
       case measure=>simp[intOf];omega
    ·obtain rfl:j=41:=by omega
     have hb:=bit_zero 41 (Nat.le_refl _)
     have hs:=sq_lt N 41 (Nat.le_refl _)
     have hR:=HR.out
     obtain⟨h,hhh⟩:∃ h,sqN N 41=h:=⟨_,rfl⟩
     rw[hb,hhh] at hs
     rw[hhh] at hR
     rw[hb,hhh]
     subst hR
     clear hhh HR
     go_wp2
     go_returns
     exact⟨rfl,bel⟩
def I (l:List Int):List Value:=l.map fun x=>.int .i64 x
def wN (x:Int):Nat:=(zAL x).1.natAbs
def allW (l:List Int):Bool:=l.all fun x=>(zAL x).2
theorem allW_take {l:List Int} {j:Nat} {a:Int} (h:l[j]? =some a):allW (l.take (j+1))=(allW (l.take j)&&(zAL a).2):=by
 unfold allW
 rw[take1 h]
 simp
theorem allW_false {l:List Int} {j:Nat} {a:Int} (h:l[j]? =some a) (h2:(zAL a).2=false):allW l=false:=by
 unfold allW
 rw[List.all_eq_false]
 exact⟨a,List.mem_of_getElem? h,by simp[h2]⟩
theorem whole_63 (x:Int) (hx:Is64 x):In63 (zAL x).1:=by
 have:=whole_64 x hx
 unfold In63
 omega
theorem nums_wholes (l:List Int) (hl:∀ x∈l,In63 x) (hn:l.length<=1000) (g c:Nat) (w:World) (h:AtB w g (I l)) (hg:g<w.heap.size) :
  Calls Tryz.prog 246 #[.slice (some ⟨g,0,none⟩) l.length c] w fun e w'=>(∃ r,e=.returned (.tuple #[r,.bool (allW l)])/\(allW l=true->Words w' r (l.map wN)))/\Below w.heap.size w w':=by
 obtain⟨i0,hi,hz0,hz1,hz2⟩:=info_parts info_U
 obtain⟨n,hln⟩:∃ n,l.length=n:=⟨_,rfl⟩
 rw[hln] at hn ⊢
 have HL:=zh hl
 have HA:=zh h
 have HN:=zh hln
 clear hl h
 go_enter Tryz.func246,Tryz.ntmps246
 go_wp2
 go_loopw [11,4] (fun t v wr=>∃ j:Nat,j<=n/\t=.int .i64 j/\allW (l.take j)=true/\zAE w wr 146 1 v j (U ((l.take j).map wN))) (fun t _ _=>n-(intOf t).toNat)
 case atStart=>exact⟨0,Nat.zero_le _,rfl,rfl,Below.refl _ _,World.ownsRow_nil _ _ _ _⟩
 case round =>
  obtain⟨j,hj,rfl,hall,hR⟩:=hrel
  have HS:=zh hR
  have HALL:=zh hall
  have hsz:=hR.1.size
  clear hR hall
  by_cases hlt:j<n
  ·obtain⟨a,ha⟩:∃ a,l[j]? =some a:=⟨_,List.getElem?_eq_getElem (show j<l.length by omega)⟩
   have c0:wr.cell? ⟨g,j,none⟩=some (.int .i64 a):=by
    have h1:=HA.out j _ (show (I l)[j]? =some (.int .i64 a) by simp[I,ha])
    exact(HS.out.1.cell (p:=⟨g,_,none⟩) (World.block_lt_of_cell? w _ h1)).trans h1
   have ha63:=(HL.out a (List.mem_of_getElem? ha)).to64
   have HW63:=zh (whole_63 a ha63)
   have HA63:=zh ha63
   have HAJ:=zh ha
   clear ha ha63
   cases hb:(zAL a).2
   ·have HF:=zh (allW_false HAJ.out hb)
    go_wp2_with(go_at_call 134;refine(zAs a HA63.out.1 HA63.out.2 _).mono ?_;rintro e w1 ⟨rfl,rfl⟩)
    go_returns
    exact⟨⟨.slice none 0 0,by rw[HF.out];rfl,fun h=>by rw[HF.out] at h;cases h⟩,HS.out.1⟩
   ·have HT:=zh (show allW (l.take (j+1))=true by rw[allW_take HAJ.out,HALL.out,hb];rfl)
    go_wp2_with(first|(go_at_call 134;refine(zAs a HA63.out.1 HA63.out.2 _).mono ?_;rintro e w1 ⟨rfl,rfl⟩)|(go_at_call 243;refine(nums_size _ HW63.out _).mono ?_;rintro e w1 ⟨rfl,rfl⟩)|(at_builtin;refine wpList_append_own _ rfl _ _ 267 rfl w.heap.size 146 i0 _ 1 8 Tryz.underlying267 hi hz0 hz1 hz2 rfl (by decide) _ _ _ rfl (zA7 HS.out.2 bel) _ 1 1 (U [wN a]) rfl rfl ?_ ?_ ?_ ?_ ?_ ?_))
    ·exact fun i u hu=>zAJ (by simp) i u hu
    ·exact U_one _
    ·simp only[maxLen];omega
    ·omega
    ·have h1:=HS.out.1.size
     simp at h1 ⊢
     try omega
    ·intro v' w1 hown' hgrow _
     have R:=zAE.step HS.out bel (show w1.ownsRow w.heap.size 146 1 v' (j+1) (U ((l.take j).map wN)++U [wN a]) from by simpa using hown') hgrow
     rw[<- U_append,show (l.take j).map wN++[wN a]=(l.take (j+1)).map wN by rw[take1 HAJ.out];simp] at R
     have HS':=zh R
     clear hown' hgrow R HS c0
     go_wp2
     go_roundw
     case rel=>exact⟨j+1,by omega,by go_num,HT.out,HS'.out⟩
     case measure=>simp[intOf];omega
  ·obtain rfl:j=n:=by omega
   have hS:=HS.out
   have hall:=HALL.out
   rw[List.take_of_length_le (by omega)] at hS hall
   have HS2:=zh hS
   have HAL2:=zh hall
   clear hS HS HALL hall
   go_wp2
   go_returns
   refine⟨⟨u4,by rw[HAL2.out];rfl,fun _=>own_words (base:=w.heap.size) ?_⟩,HS2.out.1⟩
   have e:(l.map wN).length=j:=by rw[List.length_map,HN.out]
   rw[e]
   exact HS2.out.2
def NoZero (xs:List Nat) (k:Nat):Prop:=∀ j,j<k->xs.getD j 1≠0
theorem noZero_step {xs:List Nat} {k:Nat} (h:NoZero xs k) (hk: ¬ xs.getD k 0=0):NoZero xs (k+1):=by
 intro j hj
 by_cases e:j=k
 ·subst e
  intro h'
  refine hk ?_
  simp only[List.getD] at h' ⊢
  cases hx:xs[j]? with
  | none=>rfl
  | some v=>rw[hx] at h';exact h'
 ·exact h j (by omega)
theorem noZero_end {xs:List Nat} {n:Nat} (h:NoZero xs n) (hn:xs.length=n):xs.contains 0=false:=by
 rw[List.contains_eq_mem]
 simp only[decide_eq_false_iff_not]
 intro hm
 obtain⟨j,hj⟩:=List.mem_iff_getElem?.1 hm
 have:j<xs.length:=(List.getElem?_eq_some_iff.1 hj).1
 exact h j (by omega) (by simp[List.getD,hj])
theorem hasZero_of {xs:List Nat} {k n:Nat} (hk:k<n) (hn:xs.length=n) (h:xs.getD k 0=0):xs.contains 0=true:=by
 rw[List.contains_eq_mem]
 simp only[decide_eq_true_eq]
 simp only[List.getD] at h
 cases hx:xs[k]? with
 | none=>rw[List.getElem?_eq_none_iff] at hx;omega
 | some v=>rw[hx] at h;simp at h;subst h;exact List.mem_of_getElem? hx
def IdxSaysU (xs:List Nat) (e:Ending):Prop:=∃ r:Int,e=.returned (.int .i64 r)/\(decide (0<=r)=xs.contains 0)
theorem index_words (A:Option Addr) (n c B:Nat) (xs:List Nat) (w:World) (hr:Reads w B 1 A n (U xs)) (hm:n<=9223372036854775807) :
  Calls Tryz.prog 291 #[.slice A n c,.int .u64 0] w fun e w'=>IdxSaysU xs e/\w=w':=by
 have hlen:xs.length=n:=by have:=hr.1;simpa [U] using this
 by_cases h0:n=0
 ·subst h0
  have hx:xs=[]:=by simpa using hlen
  subst hx
  clear hr hlen hm
  go_enter Tryz.func291,Tryz.ntmps291
  go_wp2
  refine wp_loop_rounds 1 ?_
  rw[rounds_succ]
  go_wp2
  go_ret
  exact⟨⟨_,rfl,by decide⟩,rfl⟩
 ·obtain⟨b,off,rfl,_,hc⟩:=hr.2 (by omega)
  have hcell:∀ k,k<n->w.cell? ⟨b,off+k,none⟩=some (.int .u64 ((xs.getD k 0:Nat):Int)):=fun k hk=>hc k _ (by simp[U,List.getD,List.getElem?_eq_getElem (show k<xs.length by omega)])
  have HC:=zh hcell
  have HL:=zh hlen
  clear hc hr hcell hlen h0
  go_enter Tryz.func291,Tryz.ntmps291
  go_wp2
  go_loop [8] (fun t=>∃ k:Nat,k<=n/\t=.int .i64 k/\NoZero xs k) (fun t=>n-(intOf t).toNat)
  case atStart=>exact⟨0,Nat.zero_le _,rfl,fun j hj=>by omega⟩
  case round =>
   obtain⟨k,hk,rfl,hno⟩:=hrel
   by_cases hlt:k<n
   ·have hcell:=HC.out k hlt
    by_cases hv:xs.getD k 0=0
    ·rw[hv] at hcell
     have hh:=zh (hasZero_of hlt HL.out hv)
     clear hv
     go_wp2
     go_ret
     exact⟨⟨_,rfl,by rw[hh.out];simp⟩,rfl⟩
    ·have hv': ¬ ((xs.getD k 0:Nat):Int)=0:=by omega
     have hh:=noZero_step hno hv
     obtain⟨z,hz⟩:∃ z,((xs.getD k 0:Nat):Int)=z:=⟨_,rfl⟩
     rw[hz] at hcell hv'
     clear hv hno hz
     go_wp2
     go_round
     case rel=>exact⟨k+1,by omega,by go_num,hh⟩
     case measure=>simp[intOf];omega
   ·have hh:=zh (noZero_end hno (HL.out.trans (by omega)))
    clear hno
    go_wp2
    go_ret
    exact⟨⟨_,rfl,by rw[hh.out];decide⟩,rfl⟩
theorem contains_words (A:Option Addr) (n c B:Nat) (xs:List Nat) (w:World) (hr:Reads w B 1 A n (U xs)) (hm:n<=9223372036854775807) :
  Calls Tryz.prog 248 #[.slice A n c,.int .u64 0] w fun e w'=>e=.returned (.bool (xs.contains 0))/\w=w':=by
 go_enter Tryz.func248,Tryz.ntmps248
 go_wp2_with fail
 refine(index_words A n c B xs w hr hm).mono ?_
 rintro e w1 ⟨⟨r,rfl,hx⟩,rfl⟩
 have HX:=zh hx
 clear hx hr hm
 go_wp2
 go_ret
 exact⟨by rw[<- HX.out];rfl,rfl⟩
def gcdX (l:List Int):V:=if allW l then wholeX ((l.map wN).foldl Nat.gcd 0) false else errG 8
theorem gcd_word {a b:Nat} (ha:a<18446744073709551616) (hb:b<18446744073709551616):Nat.gcd a b<18446744073709551616:=by
 rcases Nat.eq_zero_or_pos a with h|h
 ·subst h;rw[Nat.gcd_zero_left];exact hb
 ·exact Nat.lt_of_le_of_lt (Nat.gcd_le_left b h) ha
theorem wN_word (x:Int) (hx:Is64 x):wN x<18446744073709551616:=by
 have:=whole_64 x hx
 unfold wN
 omega
theorem nums_gcdOf (l:List Int) (hl:∀ x∈l,In63 x) (hn:l.length<=1000) (g c:Nat) (w:World) (h:AtB w g (I l)) (hg:g<w.heap.size) :
  Rt 174 #[.slice (some ⟨g,0,none⟩) l.length c] w (vG (gcdX l)):=by
 obtain⟨n,hln⟩:∃ n,l.length=n:=⟨_,rfl⟩
 have HC:=zh (fun (W:World) (hB:Below w.heap.size w W)=>nums_wholes l hl hn g c W (h.below hB) (Nat.lt_of_lt_of_le hg hB.size))
 rw[hln] at HC hn ⊢
 obtain⟨b,hb⟩:∃ b,allW l=b:=⟨_,rfl⟩
 rw[hb] at HC
 obtain⟨ws,hws⟩:∃ ws,l.map wN=ws:=⟨_,rfl⟩
 rw[hws] at HC
 have hwl:ws.length=n:=by rw[<- hws,List.length_map,hln]
 have hww:∀ u∈ws,u<18446744073709551616:=by
  intro u hu
  rw[<- hws] at hu
  obtain⟨x,hx,rfl⟩:=List.mem_map.1 hu
  exact wN_word x (hl x hx).to64
 have HWW:=zh hww
 unfold gcdX
 rw[hb,hws]
 clear hl h hws hb hww
 cases b
 ·rw[if_neg (by decide)]
  go_enter Tryz.func174,Tryz.ntmps174
  go_wp2_with(first|(go_at_call 246;refine(HC.out _ bel).mono ?_;rintro e w1 ⟨⟨r,rfl,hr⟩,hb⟩;obtain⟨l1,n1,rfl⟩:=zA0 hb;clear hb hr)|(go_at_call 21;refine mB (zA3 _ _) ?_;intro l2 n2))
  all_goals go_returns
  all_goals exact⟨rfl,bel⟩
 ·rw[if_pos rfl]
  obtain⟨R,hR⟩:∃ R,wholeX (ws.foldl Nat.gcd 0) false=R:=⟨_,rfl⟩
  rw[hR]
  have HR:=zh hR
  clear hR
  go_enter Tryz.func174,Tryz.ntmps174
  go_wp2_with fail
  go_at_call 246
  refine(HC.out _ bel).mono ?_
  rintro e w1 ⟨⟨r,rfl,hr⟩,hb⟩
  obtain⟨A,c2,rfl,hrd⟩:=hr (by trivial)
  rw[hwl] at hrd ⊢
  have HRD:=zh hrd
  obtain⟨l1,n1,rfl⟩:=zA0 hb
  clear hb hr hrd
  go_wp2
  go_loop [18,5] (fun t u=>∃ j:Nat,j<=n/\t=.int .i64 j/\u=.int .u64 (((ws.take j).foldl Nat.gcd 0:Nat):Int)/\(ws.take j).foldl Nat.gcd 0<18446744073709551616) (fun t _=>n-(intOf t).toNat)
  case atStart=>exact⟨0,Nat.zero_le _,rfl,rfl,by show (0:Nat)<_;decide⟩
  case round =>
   obtain⟨j,hj,rfl,rfl,hf⟩:=hrel
   by_cases hlt:j<n
   ·obtain⟨b,off,rfl,_,hc⟩:=HRD.out.2 (by omega)
    obtain⟨a,ha⟩:∃ a,ws[j]? =some a:=⟨_,List.getElem?_eq_getElem (show j<ws.length by omega)⟩
    have c0:=hc j _ (show (U ws)[j]? =some (.int .u64 (a:Int)) by simp[U,ha])
    have hlb:=zA2 c0
    have haw:=HWW.out a (List.mem_of_getElem? ha)
    have e1:(ws.take (j+1)).foldl Nat.gcd 0=Nat.gcd ((ws.take j).foldl Nat.gcd 0) a:=by rw[take1 ha];simp
    obtain⟨q,hq⟩:∃ q,(ws.take j).foldl Nat.gcd 0=q:=⟨_,rfl⟩
    rw[hq] at e1 hf ⊢
    have HQ:=zh (gcd_word hf haw)
    have E1:=zh e1
    have HF:=zh hf
    have HAW:=zh haw
    clear e1 hf haw hc hq ha
    go_wp2_with(go_at_call 247;refine(nums_gcd a q HF.out HAW.out _).mono ?_;rintro e w2 ⟨rfl,rfl⟩)
    go_round
    case rel=>exact⟨j+1,by omega,by go_num,by rw[E1.out],by rw[E1.out];exact HQ.out⟩
    case measure=>simp[intOf];omega
   ·obtain rfl:j=n:=by omega
    have hR:=HR.out
    rw[List.take_of_length_le (by omega)] at hf ⊢
    obtain⟨q,hq⟩:∃ q,ws.foldl Nat.gcd 0=q:=⟨_,rfl⟩
    rw[hq] at hf hR ⊢
    subst hR
    clear HR hq HRD HC HWW
    go_wp2_with(go_at_call 242;refine mB (nums_whole q hf false _) ?_;intro l2 n2)
    all_goals go_returns
    all_goals exact⟨rfl,bel⟩
def lcmGo:List Nat->Nat->V
 | [],m=>wholeX m false
 | n::ns,m=>if 922337203685477<m*(n / Nat.gcd m n) then errG 2 else lcmGo ns (m*(n / Nat.gcd m n))
def lcmX (l:List Int):V:=if allW l then if (l.map wN).contains 0 then numG 0 else lcmGo (l.map wN) 1 else errG 8
theorem nums_lcmOf (l:List Int) (hl:∀ x∈l,In63 x) (hn:l.length<=1000) (g c:Nat) (w:World) (h:AtB w g (I l)) (hg:g<w.heap.size) :
  Rt 175 #[.slice (some ⟨g,0,none⟩) l.length c] w (vG (lcmX l)):=by
 obtain⟨n,hln⟩:∃ n,l.length=n:=⟨_,rfl⟩
 have HC:=zh (fun (W:World) (hB:Below w.heap.size w W)=>nums_wholes l hl hn g c W (h.below hB) (Nat.lt_of_lt_of_le hg hB.size))
 rw[hln] at HC hn ⊢
 obtain⟨b,hb⟩:∃ b,allW l=b:=⟨_,rfl⟩
 rw[hb] at HC
 obtain⟨ws,hws⟩:∃ ws,l.map wN=ws:=⟨_,rfl⟩
 rw[hws] at HC
 have hwl:ws.length=n:=by rw[<- hws,List.length_map,hln]
 have hww:∀ u∈ws,u<18446744073709551616:=by
  intro u hu
  rw[<- hws] at hu
  obtain⟨x,hx,rfl⟩:=List.mem_map.1 hu
  exact wN_word x (hl x hx).to64
 have HWW:=zh hww
 unfold lcmX
 rw[hb,hws]
 clear hl h hws hb hww
 cases b
 ·rw[if_neg (by decide)]
  go_enter Tryz.func175,Tryz.ntmps175
  go_wp2_with(first|(go_at_call 246;refine(HC.out _ bel).mono ?_;rintro e w1 ⟨⟨r,rfl,hr⟩,hb⟩;obtain⟨l1,n1,rfl⟩:=zA0 hb;clear hb hr)|(go_at_call 21;refine mB (zA3 _ _) ?_;intro l2 n2))
  all_goals go_returns
  all_goals exact⟨rfl,bel⟩
 ·rw[if_pos rfl]
  obtain⟨R,hR⟩:∃ R,(if ws.contains 0 then numG 0 else lcmGo ws 1)=R:=⟨_,rfl⟩
  rw[hR]
  have HR:=zh hR
  clear hR
  go_enter Tryz.func175,Tryz.ntmps175
  go_wp2_with fail
  go_at_call 246
  refine(HC.out _ bel).mono ?_
  rintro e w1 ⟨⟨r,rfl,hr⟩,hb⟩
  obtain⟨A,c2,rfl,hrd⟩:=hr (by trivial)
  rw[hwl] at hrd ⊢
  have HRD:=zh hrd
  obtain⟨l1,n1,rfl⟩:=zA0 hb
  clear hb hr hrd
  obtain⟨z,hz⟩:∃ z,ws.contains 0=z:=⟨_,rfl⟩
  have HZ:=zh hz
  have HCW:=zh (fun W (hB:Below (more (w.alloc zObj) l1 n1).heap.size (more (w.alloc zObj) l1 n1) W)=>contains_words A n c2 _ ws W (HRD.out.below hB) (by omega))
  rw[hz] at HCW
  have hR:=HR.out
  rw[hz] at hR
  clear hz HR
  cases z
  ·rw[if_neg (by decide)] at hR
   have HR2:=zh hR
   clear hR
   go_wp2_with(go_at_call 248;refine(HCW.out _ (Below.refl _ _)).mono ?_;rintro e w2 ⟨rfl,rfl⟩)
   go_loop [23,5] (fun t u=>∃ (j q:Nat),j<=n/\t=.int .i64 j/\u=.int .u64 (q:Int)/\1<=q/\q<=922337203685477/\lcmGo (ws.drop j) q=R) (fun t _=>n-(intOf t).toNat)
   case atStart=>exact⟨0,1,Nat.zero_le _,rfl,rfl,by omega,by omega,HR2.out⟩
   case round =>
    obtain⟨j,q,hj,rfl,rfl,hq1,hq2,hR⟩:=hrel
    have hq64:q<18446744073709551616:=by omega
    by_cases hlt:j<n
    ·obtain⟨b,off,rfl,_,hc⟩:=HRD.out.2 (by omega)
     obtain⟨a,ha⟩:∃ a,ws[j]? =some a:=⟨_,List.getElem?_eq_getElem (show j<ws.length by omega)⟩
     have c0:=hc j _ (show (U ws)[j]? =some (.int .u64 (a:Int)) by simp[U,ha])
     have hlb:=zA2 c0
     have haw:=HWW.out a (List.mem_of_getElem? ha)
     have ha0:a≠0:=by
      intro e
      have h0:=HZ.out
      rw[List.contains_eq_mem] at h0
      simp only[decide_eq_false_iff_not] at h0
      exact h0 (e ▸ List.mem_of_getElem? ha)
     have hd:ws.drop j=a::ws.drop (j+1):=by
      obtain⟨hm,hv⟩:=List.getElem?_eq_some_iff.1 ha
      rw[List.drop_eq_getElem_cons hm,hv]
     rw[hd] at hR
     unfold lcmGo at hR
     obtain⟨d,hdd⟩:∃ d,Nat.gcd q a=d:=⟨_,rfl⟩
     have hd0:0<d:=by rw[<- hdd];exact Nat.gcd_pos_of_pos_left _ hq1
     have hda:d<=a:=by rw[<- hdd];exact Nat.gcd_le_right _ (by omega)
     obtain⟨e,hee⟩:∃ e,a / d=e:=⟨_,rfl⟩
     have he1:1<=e:=by rw[<- hee];exact Nat.div_pos hda hd0
     have hea:e<=a:=by rw[<- hee];exact Nat.div_le_self _ _
     obtain⟨p,hp⟩:∃ p,q*e=p:=⟨_,rfl⟩
     have hp1:1<=p:=by rw[<- hp];exact Nat.mul_le_mul hq1 he1
     rw[hdd,hee,hp] at hR
     obtain⟨p1,hp1'⟩:∃ q,p / 18446744073709551616=q:=⟨_,rfl⟩
     obtain⟨p0,hp0'⟩:∃ q,p % 18446744073709551616=q:=⟨_,rfl⟩
     have hq':(a:Int) / (d:Int)=(e:Int):=by rw[<- hee];rfl
     have hq'':(a:Int).tdiv (d:Int)=(e:Int):=by rw[<- hee];rfl
     have hdne:(d:Int)≠0:=by omega
     have hwe:IntKind.u64.wrap (e:Int)=e:=by rw[IntKind.wrap_u64];omega
     have HP:=zh hp
     have HP1:=zh hp1'
     have HP0:=zh hp0'
     have HD:=zh hdd
     have HQ:=zh hq64
     have HAW:=zh haw
     have HEW:=zh (show e<18446744073709551616 by omega)
     by_cases ho:922337203685477<p
     ·rw[if_pos ho] at hR
      subst hR
      by_cases ho1:0<p1
      ·have ho1':(0:Int)<(p1:Int):=by omega
       clear hp hp1' hp0' hdd hee ha0 ha haw hd hc he1 hea hp1 ho
       go_wp2_with(first|(go_at_call 247;refine(nums_gcd a q HQ.out HAW.out _).mono ?_;rw[HD.out];rintro e w2 ⟨rfl,rfl⟩)|(go_at_call 58;refine(Tryz.bits_Mul64 q e HQ.out HEW.out _).mono ?_;rw[HP.out,HP1.out,HP0.out];rintro e w1 ⟨rfl,rfl⟩)|(go_at_call 21;refine mB (zA3 _ _) ?_;intro l2 n2))
       all_goals go_returns
       all_goals exact⟨rfl,bel⟩
      ·have ho1': ¬ (0:Int)<(p1:Int):=by omega
       have ho2':(922337203685477:Int)<(p0:Int):=by omega
       clear hp hp1' hp0' hdd hee ha0 ha haw hd hc he1 hea hp1 ho
       go_wp2_with(first|(go_at_call 247;refine(nums_gcd a q HQ.out HAW.out _).mono ?_;rw[HD.out];rintro e w2 ⟨rfl,rfl⟩)|(go_at_call 58;refine(Tryz.bits_Mul64 q e HQ.out HEW.out _).mono ?_;rw[HP.out,HP1.out,HP0.out];rintro e w1 ⟨rfl,rfl⟩)|(go_at_call 21;refine mB (zA3 _ _) ?_;intro l2 n2))
       all_goals go_returns
       all_goals exact⟨rfl,bel⟩
     ·rw[if_neg ho] at hR
      have ho1': ¬ (0:Int)<(p1:Int):=by omega
      have ho2': ¬ (922337203685477:Int)<(p0:Int):=by omega
      have hpp:p0=p:=by omega
      have HRR:=zh hR
      have HPP:=zh hpp
      have HO:=zh (show p<=922337203685477 by omega)
      have HO1:=zh hp1
      clear hp hp1' hp0' hdd hee ha0 ha haw hd hc he1 hea hp1 ho hR hpp
      go_wp2_with(first|(go_at_call 247;refine(nums_gcd a q HQ.out HAW.out _).mono ?_;rw[HD.out];rintro e w2 ⟨rfl,rfl⟩)|(go_at_call 58;refine(Tryz.bits_Mul64 q e HQ.out HEW.out _).mono ?_;rw[HP.out,HP1.out,HP0.out];rintro e w1 ⟨rfl,rfl⟩))
      go_round
      case rel=>exact⟨j+1,p,by omega,by go_num,by rw[HPP.out],HO1.out,HO.out,HRR.out⟩
      case measure=>simp[intOf];omega
    ·obtain rfl:j=n:=by omega
     rw[List.drop_of_length_le (by omega)] at hR
     have hR2:R=wholeX q false:=hR.symm
     subst hR2
     clear hR HR2
     go_wp2_with(go_at_call 242;refine mB (nums_whole q hq64 false _) ?_;intro l2 n2)
     all_goals go_returns
     all_goals exact⟨rfl,bel⟩
  ·rw[if_pos rfl] at hR
   subst hR
   go_wp2_with(first|(go_at_call 248;refine(HCW.out _ (Below.refl _ _)).mono ?_;rintro e w2 ⟨rfl,rfl⟩)|(go_at_call 55;refine mB (zAq _ _) ?_;intro l2 n2))
   all_goals go_returns
   all_goals exact⟨rfl,bel⟩
theorem asNum_64 (v:V) (h:Is64 v.num):Is64 (zA5 v).1:=by
 unfold zA5
 repeat' split
 all_goals first|exact h|exact(show Is64 0 by unfold Is64;decide)|exact(show Is64 10000 by unfold Is64;decide)
theorem zC6 (n c:Int) (w:World):Rt 36 #[.int .i64 n,.int .i64 c] w (vG (numC (n,c))):=by
 by_cases h:c=0
 ·subst h
  rw[show numC (n,0)=numG n from if_neg (fun h=>h rfl)]
  exact eval_number_ok n w
 ·rw[show numC (n,c)=errG c from if_pos h]
  have h1:(c != 0)=true:=by simp[h]
  go_enter Tryz.func36,Tryz.ntmps36
  go_wp2_with(go_at_call 21;refine mB (zA3 c _) ?_;intro l m)
  go_returns
  exact⟨rfl,bel⟩
theorem eval_sums (op:Int) (hop:3<=op) (hop2:op<=6) (a b:V) (ha:Is64 a.num) (hb:Is64 b.num) (w:World):Rt 39 #[.int .i64 op,(vG a),(vG b)] w (vG (sumsG op a b)):=by
 have ix:=asNum_64 a ha
 have iy:=asNum_64 b hb
 obtain⟨x,c,ex⟩:∃ x c,zA5 a=(x,c):=⟨_,_,rfl⟩
 obtain⟨y,d,ey⟩:∃ y d,zA5 b=(y,d):=⟨_,_,rfl⟩
 have es:sumsG op a b=if c≠0 then errG c else if d≠0 then errG d else numC (opX op x y):=by
  unfold sumsG
  rw[ex,ey]
 rw[ex] at ix
 rw[ey] at iy
 have EX:=zh ex
 have EY:=zh ey
 have IX:=zh ix
 have IY:=zh iy
 clear ex ey ix iy ha hb
 by_cases hc:c=0
 ·by_cases hd:d=0
  ·subst hc
   subst hd
   rw[show sumsG op a b=numC (opX op x y) by rw[es];rfl]
   clear es
   have h:op=3∨op=4∨op=5∨op=6:=by omega
   clear hop hop2
   rcases h with rfl|rfl|rfl|rfl
   ·rw[show opX 3 x y=mulX x y from rfl]
    go_enter Tryz.func39,Tryz.ntmps39
    go_wp2_with(first
     | (go_at_call_of 35 (Value.agg #[Value.int .i64 a.tag,Value.int .i64 a.num,Value.string a.str,Value.bool a.is,Value.int .i64 a.code]);refine(zAG a _).mono ?_;rw[EX.out];rintro e w1 ⟨rfl,hb⟩;obtain⟨l,m,rfl⟩:=zA0 hb;clear hb)
     | (go_at_call_of 35 (Value.agg #[Value.int .i64 b.tag,Value.int .i64 b.num,Value.string b.str,Value.bool b.is,Value.int .i64 b.code]);refine(zAG b _).mono ?_;rw[EY.out];rintro e w1 ⟨rfl,hb⟩;obtain⟨l,m,rfl⟩:=zA0 hb;clear hb)
     | (go_at_call 61;refine mB (dec_Mul x y IX.out IY.out _) ?_;intro l m)
     | (go_at_call 36;refine mB (zC6 _ _ _) ?_;intro l m))
    go_returns
    exact⟨rfl,bel⟩
   ·rw[show opX 4 x y=divX x y from rfl]
    go_enter Tryz.func39,Tryz.ntmps39
    go_wp2_with(first
     | (go_at_call_of 35 (Value.agg #[Value.int .i64 a.tag,Value.int .i64 a.num,Value.string a.str,Value.bool a.is,Value.int .i64 a.code]);refine(zAG a _).mono ?_;rw[EX.out];rintro e w1 ⟨rfl,hb⟩;obtain⟨l,m,rfl⟩:=zA0 hb;clear hb)
     | (go_at_call_of 35 (Value.agg #[Value.int .i64 b.tag,Value.int .i64 b.num,Value.string b.str,Value.bool b.is,Value.int .i64 b.code]);refine(zAG b _).mono ?_;rw[EY.out];rintro e w1 ⟨rfl,hb⟩;obtain⟨l,m,rfl⟩:=zA0 hb;clear hb)
     | (go_at_call 38;refine mB (dec_Div x y IX.out IY.out _) ?_;intro l m)
     | (go_at_call 36;refine mB (zC6 _ _ _) ?_;intro l m))
    go_returns
    exact⟨rfl,bel⟩
   ·rw[show opX 5 x y=addX x y from rfl]
    go_enter Tryz.func39,Tryz.ntmps39
    go_wp2_with(first
     | (go_at_call_of 35 (Value.agg #[Value.int .i64 a.tag,Value.int .i64 a.num,Value.string a.str,Value.bool a.is,Value.int .i64 a.code]);refine(zAG a _).mono ?_;rw[EX.out];rintro e w1 ⟨rfl,hb⟩;obtain⟨l,m,rfl⟩:=zA0 hb;clear hb)
     | (go_at_call_of 35 (Value.agg #[Value.int .i64 b.tag,Value.int .i64 b.num,Value.string b.str,Value.bool b.is,Value.int .i64 b.code]);refine(zAG b _).mono ?_;rw[EY.out];rintro e w1 ⟨rfl,hb⟩;obtain⟨l,m,rfl⟩:=zA0 hb;clear hb)
     | (go_at_call 62;refine(dec_Add x y IX.out IY.out _).mono ?_;rintro e w1 ⟨rfl,rfl⟩)
     | (go_at_call 36;refine mB (zC6 _ _ _) ?_;intro l m))
    go_returns
    exact⟨rfl,bel⟩
   ·rw[show opX 6 x y=subX x y from rfl]
    go_enter Tryz.func39,Tryz.ntmps39
    go_wp2_with(first
     | (go_at_call_of 35 (Value.agg #[Value.int .i64 a.tag,Value.int .i64 a.num,Value.string a.str,Value.bool a.is,Value.int .i64 a.code]);refine(zAG a _).mono ?_;rw[EX.out];rintro e w1 ⟨rfl,hb⟩;obtain⟨l,m,rfl⟩:=zA0 hb;clear hb)
     | (go_at_call_of 35 (Value.agg #[Value.int .i64 b.tag,Value.int .i64 b.num,Value.string b.str,Value.bool b.is,Value.int .i64 b.code]);refine(zAG b _).mono ?_;rw[EY.out];rintro e w1 ⟨rfl,hb⟩;obtain⟨l,m,rfl⟩:=zA0 hb;clear hb)
     | (go_at_call 63;refine(dec_Sub x y IX.out IY.out _).mono ?_;rintro e w1 ⟨rfl,rfl⟩)
     | (go_at_call 36;refine mB (zC6 _ _ _) ?_;intro l m))
    go_returns
    exact⟨rfl,bel⟩
  ·subst hc
   rw[show sumsG op a b=errG d by rw[es,if_neg (fun h=>h rfl),if_pos hd]]
   have hd1:(d != 0)=true:=by simp[hd]
   clear es hd hop hop2
   go_enter Tryz.func39,Tryz.ntmps39
   go_wp2_with(first
    | (go_at_call_of 35 (Value.agg #[Value.int .i64 a.tag,Value.int .i64 a.num,Value.string a.str,Value.bool a.is,Value.int .i64 a.code]);refine(zAG a _).mono ?_;rw[EX.out];rintro e w1 ⟨rfl,hb⟩;obtain⟨l,m,rfl⟩:=zA0 hb;clear hb)
    | (go_at_call_of 35 (Value.agg #[Value.int .i64 b.tag,Value.int .i64 b.num,Value.string b.str,Value.bool b.is,Value.int .i64 b.code]);refine(zAG b _).mono ?_;rw[EY.out];rintro e w1 ⟨rfl,hb⟩;obtain⟨l,m,rfl⟩:=zA0 hb;clear hb)
    | (go_at_call 21;refine mB (zA3 d _) ?_;intro l m))
   go_returns
   exact⟨rfl,bel⟩
 ·rw[show sumsG op a b=errG c by rw[es,if_pos hc]]
  have hc1:(c != 0)=true:=by simp[hc]
  clear es hc hop hop2
  go_enter Tryz.func39,Tryz.ntmps39
  go_wp2_with(first
   | (go_at_call_of 35 (Value.agg #[Value.int .i64 a.tag,Value.int .i64 a.num,Value.string a.str,Value.bool a.is,Value.int .i64 a.code]);refine(zAG a _).mono ?_;rw[EX.out];rintro e w1 ⟨rfl,hb⟩;obtain⟨l,m,rfl⟩:=zA0 hb;clear hb)
   | (go_at_call 21;refine mB (zA3 c _) ?_;intro l m))
  go_returns
  exact⟨rfl,bel⟩
def negX (x:Int):Int×Int:=if x=minI then (0,2) else (-x,0)
theorem dec_Neg (x:Int) (hx:Is64 x) (w:World):Calls Tryz.prog 37 #[.int .i64 x] w fun e w'=>e=.returned (.tuple #[.int .i64 (negX x).1,.int .i64 (negX x).2])/\w=w':=by
 unfold negX
 by_cases h:x=minI
 ·rw[if_pos h]
  have m1:(x != minI)=false:=by simp[h]
  clear h hx
  go_enter Tryz.func37,Tryz.ntmps37
  go_wp2_with(go_at_call 56;refine(zAM _ _).mono ?_;rw[m1];rintro e w1 ⟨rfl,rfl⟩)
  go_ret2
  exact⟨rfl,rfl⟩
 ·rw[if_neg h]
  have m1:(x != minI)=true:=by simp[h]
  have hw:IntKind.i64.wrap (-x)= -x:=by
   rw[IntKind.wrap_i64]
   unfold Is64 at hx
   unfold minI at h
   omega
  clear h hx
  go_enter Tryz.func37,Tryz.ntmps37
  go_wp2_with(go_at_call 56;refine(zAM _ _).mono ?_;rw[m1];rintro e w1 ⟨rfl,rfl⟩)
  go_ret2
  exact⟨rfl,rfl⟩
def oneG (op:Int) (a:V):V:=if (zA5 a).2≠0 then errG (zA5 a).2 else if op=1 then numC (negX (zA5 a).1) else numC (divX (zA5 a).1 1000000)
theorem eval_one (op:Int) (a:V) (ha:Is64 a.num) (w:World):Rt 23 #[.int .i64 op,(vG a)] w (vG (oneG op a)):=by
 have ix:=asNum_64 a ha
 obtain⟨x,c,ex⟩:∃ x c,zA5 a=(x,c):=⟨_,_,rfl⟩
 have es:oneG op a=if c≠0 then errG c else if op=1 then numC (negX x) else numC (divX x 1000000):=by
  unfold oneG
  rw[ex]
 rw[ex] at ix
 have EX:=zh ex
 have IX:=zh ix
 clear ex ix ha
 by_cases hc:c=0
 ·subst hc
  by_cases h1:op=1
  ·rw[show oneG op a=numC (negX x) by rw[es,if_neg (fun h=>h rfl),if_pos h1]]
   have k1:(op==1)=true:=by simp[h1]
   clear es h1
   go_enter Tryz.func23,Tryz.ntmps23
   go_wp2_with(first
    | (go_at_call 35;refine(zAG a _).mono ?_;rw[EX.out];rintro e w1 ⟨rfl,hb⟩;obtain⟨l,m,rfl⟩:=zA0 hb;clear hb)
    | (go_at_call 37;refine(dec_Neg x IX.out _).mono ?_;rintro e w1 ⟨rfl,rfl⟩)
    | (go_at_call 36;refine mB (zC6 _ _ _) ?_;intro l m))
   go_returns
   exact⟨rfl,bel⟩
  ·rw[show oneG op a=numC (divX x 1000000) by rw[es,if_neg (fun h=>h rfl),if_neg h1]]
   have k1:(op==1)=false:=by simp[h1]
   clear es h1
   go_enter Tryz.func23,Tryz.ntmps23
   go_wp2_with(first
    | (go_at_call 35;refine(zAG a _).mono ?_;rw[EX.out];rintro e w1 ⟨rfl,hb⟩;obtain⟨l,m,rfl⟩:=zA0 hb;clear hb)
    | (go_at_call 38;refine mB (dec_Div x 1000000 IX.out (show Is64 1000000 by unfold Is64;decide) _) ?_;intro l m)
    | (go_at_call 36;refine mB (zC6 _ _ _) ?_;intro l m))
   go_returns
   exact⟨rfl,bel⟩
 ·rw[show oneG op a=errG c by rw[es,if_pos hc]]
  have hc1:(c != 0)=true:=by simp[hc]
  clear es hc
  go_enter Tryz.func23,Tryz.ntmps23
  go_wp2_with(first
   | (go_at_call 35;refine(zAG a _).mono ?_;rw[EX.out];rintro e w1 ⟨rfl,hb⟩;obtain⟨l,m,rfl⟩:=zA0 hb;clear hb)
   | (go_at_call 21;refine mB (zA3 c _) ?_;intro l m))
  go_returns
  exact⟨rfl,bel⟩
end Go.Proofs.YtppghgnhlgoagaaGreatDoor
