/- Parts. -/
import Derived.Test.YtppghgnhlgoagaaGreatDoorProg
import Derived.Handy
import Derived.Lib.Hide
import Derived.Deep.Draws
import Derived.WalkLawsBesides
import Derived.Deep.QuietTactic
import Derived.BigQuiet
set_option linter.all false
set_option maxRecDepth 100000
set_option maxHeartbeats 4000000
namespace Go.Proofs.YtppghgnhlgoagaaGreatDoor
open Go Go.RowKit
def more (w:World) (l:List Obj) (n:Nat):World:= { w with heap:=w.heap++l.toArray,drawn:=n }
section
variable {w w':World} {l l':List Obj} {n n' b i:Nat} {v:Value}
@[simp,go_sem] theorem zAU:(more w l n).heap.size=w.heap.size+l.length:=by simp[more]
theorem zBR (h:b<w.heap.size):(more w l n).heap[b]? =w.heap[b]? :=by
 show (w.heap++l.toArray)[b]? =_
 rw[Array.getElem?_append_left h]
@[go_sem] theorem zCC (h:b<w.heap.size):(more w l n).cell? ⟨b,i,none⟩=w.cell? ⟨b,i,none⟩:=World.cell?_of_block (a:=⟨b,i,none⟩) (zBR h)
@[go_sem] theorem more_frozen (h:b<w.heap.size):(more w l n).frozen? ⟨b,i,none⟩=w.frozen? ⟨b,i,none⟩:=World.frozen?_of_block (a:=⟨b,i,none⟩) (zBR h)
@[go_sem] theorem more_setCell (h:b<w.heap.size):(more w l n).setCell ⟨b,i,none⟩ v=more (w.setCell ⟨b,i,none⟩ v) l n:=by
  unfold World.setCell more
  congr 1
  apply Array.ext_getElem?
  intro k
  simp only[Array.getElem?_modify,Array.getElem?_append,Array.size_modify]
  by_cases hk:b=k
  ·subst hk
   simp[h]
  ·simp[hk]
@[go_sem] theorem more_drew:(more w l n).drew=more w l (n+1):=rfl
@[go_sem] theorem more_drewN (k:Nat):(more w l n).drewN k=more w l (n+k):=rfl
@[go_sem] theorem drew_more:more w.drew l n=more w l n:=rfl
@[go_sem] theorem drewN_more (k:Nat):more (w.drewN k) l n=more w l n:=rfl
@[go_sem] theorem zAO:more (more w l n) l' n'=more w (l++l') n':=by
  unfold more
  simp
theorem zAi {B:Nat} (h:B<=w.heap.size):Below B w (more w l n):=⟨rfl,rfl,rfl,by simp[more],fun k hk=>zBR (by omega)⟩
theorem below_more' {B:Nat} {a:World} (h:Below B a w) (hB:B<=w.heap.size):Below B a (more w l n):=h.trans (zAi hB)
theorem zA0 (h:Below w.heap.size w w'):∃ l n,w'=more w l n:=by
 refine⟨(w'.heap.toList.drop w.heap.size),w'.drawn,?_⟩
 obtain⟨h1,h2,h3,h4,h5⟩:=h
 have e:w'.heap=w.heap++(w'.heap.toList.drop w.heap.size).toArray:=by
  apply Array.ext_getElem?
  intro k
  rw[Array.getElem?_append]
  by_cases hk:k<w.heap.size
  ·rw[if_pos hk];exact h5 k hk
  ·rw[if_neg hk]
   simp only[List.getElem?_toArray,List.getElem?_drop,Array.getElem?_toList]
   congr 1
   omega
 cases w' with
 | mk hp tp dr os out =>
   simp only at h1 h2 h3 e ⊢
   subst h1 h2 h3
   unfold more
   rw[<- e]
end
@[go_sem] theorem lt_len {n a:Nat} {l:List Obj} (h:n<a):n<a+l.length:=Nat.lt_of_lt_of_le h (Nat.le_add_right _ _)
@[go_sem] theorem lt_len1 {n a:Nat} {l:List Obj} (h:n<a+l.length):n<a+l.length+1:=Nat.lt_succ_of_lt h
@[go_sem] theorem lt_len2 {n a:Nat} {l:List Obj} (h:n<a+l.length+1):n<a+l.length+1+1:=Nat.lt_succ_of_lt h
@[go_sem] theorem lt_len3 {n a:Nat} {l:List Obj} (h:n<a+l.length+1+1):n<a+l.length+1+1+1:=Nat.lt_succ_of_lt h
@[go_sem] theorem le_len {n a:Nat} {l:List Obj} (h:n<=a):n<=a+l.length:=Nat.le_trans h (Nat.le_add_right _ _)
@[go_sem] theorem le_len1 {n a:Nat} {l:List Obj} (h:n<=a):n<=a+l.length+1:=by omega
@[go_sem] theorem le_len2 {n a:Nat} {l:List Obj} (h:n<=a):n<=a+l.length+1+1:=by omega
@[go_sem] theorem eq_len {b a:Nat} {l:List Obj} (h:b<a):(b=a+l.length)=False:=by simp;omega
@[go_sem] theorem eq_len1 {b a:Nat} {l:List Obj} (h:b<a):(b=a+l.length+1)=False:=by simp;omega
@[go_sem] theorem eq_len2 {b a:Nat} {l:List Obj} (h:b<a):(b=a+l.length+1+1)=False:=by simp;omega
@[go_sem] theorem eq_len3 {b a:Nat} {l:List Obj} (h:b<a):(b=a+l.length+1+1+1)=False:=by simp;omega
@[go_sem] theorem eq_lenr {b a:Nat} {l:List Obj} (h:b<a):(a+l.length=b)=False:=by simp;omega
theorem zBx {B:Nat} {a w:World} (h:Below B a w) (o:Obj) (hB:B<=w.heap.size):Below B a (w.alloc o):=h.alloc hB o
theorem below_drewN {B:Nat} {a w:World} (h:Below B a w) (n:Nat):Below B a (w.drewN n):=⟨h.os,h.tape,h.output,h.size,h.block⟩
theorem bel {B:Nat} {a w:World} (h:Below B a w:=by (with_reducible repeat' (first|exact .refl _ _|assumption|refine below_more' ?_ ?_|refine zBx ?_ _ ?_|refine .drew ?_|refine .setCell ?_ ?_ _|refine below_drewN ?_ _))<;>go_size):Below B a w:=h
abbrev zObj:Obj:=.cells #[.int .i64 0,.int .i64 0,.string ⟨#[]⟩,.bool false,.int .i64 0] 44
theorem cltK {w:World} {b i:Nat} {v:Value} (h:w.cell? ⟨b,i,none⟩=some v):b<w.heap.size:=World.block_lt_of_cell? w _ h
abbrev Rt (f:FuncId) (xs:Array Value) (w:World) (v:Value):Prop:=Calls Tryz.prog f xs w fun e w'=>e=.returned v/\Below w.heap.size w w'
theorem mB {P:Program} {f:FuncId} {xs:Array Value} {w:World} {X:Ending} {Q:Ending->World->Prop} (h:Calls P f xs w fun e w'=>e=X/\Below w.heap.size w w') (k:∀ l n,Q X (more w l n)):Calls P f xs w Q:=by
 refine h.mono ?_
 rintro e w1 ⟨rfl,hb⟩
 obtain⟨l,n,rfl⟩:=zA0 hb
 exact k l n
open Go.Lib renaming hid->zh
def Reads (w:World) (B size:Nat) (A:Option Addr) (n:Nat) (xs:List Value):Prop :=
 xs.length=n*size/\(0<n->∃ b off,A=some ⟨b,off,none⟩/\b<B/\∀ j u,xs[j]? =some u->w.cell? ⟨b,off+j,none⟩=some u)
theorem Reads.keep {w w':World} {B B' size n:Nat} {A:Option Addr} {xs:List Value} (h:Reads w B size A n xs) (hk:∀ b i v,b<B->w.cell? ⟨b,i,none⟩=some v->w'.cell? ⟨b,i,none⟩=some v) (hB:B<=B'):Reads w' B' size A n xs :=
 ⟨h.1,fun hn=>by
  obtain⟨b,off,e,hb,hc⟩:=h.2 hn
  exact⟨b,off,e,by omega,fun j u hu=>hk _ _ _ hb (hc j u hu)⟩⟩
theorem Reads.below {w w':World} {B size n:Nat} {A:Option Addr} {xs:List Value} (h:Reads w B size A n xs) (hb:Below B w w'):Reads w' B size A n xs :=
 h.keep (fun b i v hlt hv=>(hb.cell (p:=⟨b,i,none⟩) hlt).trans hv) (Nat.le_refl _)
def OneCell (w:World) (b:Nat):Prop:=b<w.heap.size/\∀ i v,w.cell? ⟨b,i,none⟩=some v->i=0
theorem OneCell.of_block {w w':World} {b:Nat} (h:OneCell w b) (hs:w.heap.size<=w'.heap.size) (e:w'.heap[b]? =w.heap[b]?):OneCell w' b :=
 ⟨Nat.lt_of_lt_of_le h.1 hs,fun i v hv=>h.2 i v ((World.cell?_of_block (w:=w) (w':=w') (a:=⟨b,i,none⟩) e).symm.trans hv)⟩
theorem one_alloc (w:World) (c:Value) (t:TypeId):OneCell (w.alloc (.cells #[c] t)) w.heap.size:=by
 refine⟨by simp,fun i v hv=> ?_⟩
 rw[cell_of_row (w.alloc (.cells #[c] t)) w.heap.size i #[c] t (0,0) (heap_alloc_new w _)] at hv
 have:=(Array.getElem?_eq_some_iff.1 hv).1
 simp at this
 exact this
structure Keeps (w w':World):Prop where
 cell:∀ b i v,w.cell? ⟨b,i,none⟩=some v->w'.cell? ⟨b,i,none⟩=some v
 one:∀ b,OneCell w b->OneCell w' b
theorem keeps_refl (w:World):Keeps w w:=⟨fun _ _ _ h=>h,fun _ h=>h⟩
theorem Keeps.trans {a b c:World} (h:Keeps a b) (k:Keeps b c):Keeps a c:=⟨fun n i v hv=>k.cell n i v (h.cell n i v hv),fun b hb=>k.one b (h.one b hb)⟩
theorem keeps_alloc {a w:World} (h:Keeps a w) (o:Obj):Keeps a (w.alloc o):=by
 refine⟨fun n i v hv=> ?_,fun b hb=>(h.one b hb).of_block (by simp) (Below.heap_alloc w o b (h.one b hb).1)⟩
 have h1:=h.cell n i v hv
 rw[World.cell?_alloc_past _ _ _ (World.block_lt_of_cell? w _ h1)]
 exact h1
theorem keeps_more {a w:World} (h:Keeps a w) (l:List Obj) (k:Nat):Keeps a (more w l k):=by
 refine⟨fun n i v hv=> ?_,fun b hb=>(h.one b hb).of_block (by simp) (zBR (h.one b hb).1)⟩
 have h1:=h.cell n i v hv
 rw[zCC (World.block_lt_of_cell? w _ h1)]
 exact h1
theorem keeps_drew {a w:World} (h:Keeps a w):Keeps a w.drew:=⟨h.cell,h.one⟩
theorem keeps_drewN {a w:World} (h:Keeps a w) (n:Nat):Keeps a (w.drewN n):=⟨h.cell,h.one⟩
theorem zAr {w w':World} (h:Below w.heap.size w w'):Keeps w w':=⟨fun n i v hv=>(h.cell (p:=⟨n,i,none⟩) (World.block_lt_of_cell? w _ hv)).trans hv,fun b hb=>hb.of_block h.size (h.block b hb.1)⟩
theorem Reads.keeps {w w':World} {B size n:Nat} {A:Option Addr} {xs:List Value} (h:Reads w B size A n xs) (hk:Keeps w w'):Reads w' B size A n xs :=
 h.keep (fun b i v _ hv=>hk.cell b i v hv) (Nat.le_refl _)
theorem Reads.lift {w:World} {B B' size n:Nat} {A:Option Addr} {xs:List Value} (h:Reads w B size A n xs) (hB:B<=B'):Reads w B' size A n xs:=h.keep (fun _ _ _ _ hv=>hv) hB
def zAm (xs:List Bool):Bool:=xs.contains true
def NoTrue (xs:List Bool) (k:Nat):Prop:=∀ j,j<k->xs[j]? ≠some true
theorem noTrue_step {xs:List Bool} {k:Nat} (h:NoTrue xs k) (hk:(xs.getD k false)=false):NoTrue xs (k+1):=by
 intro j hj
 by_cases e:j=k
 ·subst e
  intro h'
  simp[List.getD,h'] at hk
 ·exact h j (by omega)
theorem noTrue_end {xs:List Bool} {n:Nat} (h:NoTrue xs n) (hn:xs.length=n):zAm xs=false:=by
 unfold zAm
 rw[List.contains_eq_mem]
 simp only[decide_eq_false_iff_not]
 intro hm
 obtain⟨j,hj⟩:=List.mem_iff_getElem?.1 hm
 have:j<xs.length:=(List.getElem?_eq_some_iff.1 hj).1
 exact h j (by omega) hj
theorem hasTrue_of {xs:List Bool} {k:Nat} (h:(xs.getD k false)=true):zAm xs=true:=by
 unfold zAm
 simp only[List.getD] at h
 cases hx:xs[k]? with
 | none=>rw[hx] at h;cases h
 | some v =>
   rw[hx] at h
   simp at h
   subst h
   simpa using List.mem_of_getElem? hx
def IdxSays (xs:List Bool) (e:Ending):Prop:=∃ r:Int,e=.returned (.int .i64 r)/\(decide (0<=r)=zAm xs)
theorem index_bools (A:Option Addr) (n c B:Nat) (xs:List Bool) (w:World) (hr:Reads w B 1 A n (xs.map Value.bool)) (hm:n<=9223372036854775807) :
  Calls Tryz.prog 179 #[.slice A n c,.bool true] w fun e w'=>IdxSays xs e/\w=w':=by
 have hlen:xs.length=n:=by have:=hr.1;simpa using this
 by_cases h0:n=0
 ·subst h0
  have hx:xs=[]:=by simpa using hlen
  subst hx
  clear hr hlen hm
  go_enter Tryz.func179,Tryz.ntmps179
  go_wp2
  refine wp_loop_rounds 1 ?_
  rw[rounds_succ]
  go_wp2
  go_ret
  exact⟨⟨_,rfl,by decide⟩,rfl⟩
 ·obtain⟨b,off,rfl,_,hc⟩:=hr.2 (by omega)
  have hcell:∀ k,k<n->w.cell? ⟨b,off+k,none⟩=some (.bool (xs.getD k false)):=fun k hk=>hc k _ (by simp[List.getD,List.getElem?_eq_getElem (show k<xs.length by omega)])
  have HC:=zh hcell
  have HL:=zh hlen
  clear hc hr hcell hlen h0
  go_enter Tryz.func179,Tryz.ntmps179
  go_wp2
  go_loop [8] (fun t=>∃ k:Nat,k<=n/\t=.int .i64 k/\NoTrue xs k) (fun t=>n-(intOf t).toNat)
  case atStart=>exact⟨0,Nat.zero_le _,rfl,fun j hj=>by omega⟩
  case round =>
   obtain⟨k,hk,rfl,hno⟩:=hrel
   by_cases hlt:k<n
   ·have hcell:=HC.out k hlt
    cases hv:xs.getD k false with
    | true =>
      rw[hv] at hcell
      have hh:=zh (hasTrue_of hv)
      clear hv
      go_wp2
      go_ret
      exact⟨⟨_,rfl,by rw[hh.out];simp⟩,rfl⟩
    | false =>
      rw[hv] at hcell
      have hh:=noTrue_step hno hv
      clear hv hno
      go_wp2
      go_round
      case rel=>exact⟨k+1,by omega,by go_num,hh⟩
      case measure=>simp[intOf];omega
   ·have hh:=zh (noTrue_end hno (HL.out.trans (by omega)))
    clear hno
    go_wp2
    go_ret
    exact⟨⟨_,rfl,by rw[hh.out];decide⟩,rfl⟩
theorem contains_bools (A:Option Addr) (n c B:Nat) (xs:List Bool) (w:World) (hr:Reads w B 1 A n (xs.map Value.bool)) (hm:n<=9223372036854775807) :
  Calls Tryz.prog 130 #[.slice A n c,.bool true] w fun e w'=>e=.returned (.bool (zAm xs))/\w=w':=by
 go_enter Tryz.func130,Tryz.ntmps130
 go_wp2_with fail
 refine(index_bools A n c B xs w hr hm).mono ?_
 rintro e w1 ⟨⟨r,rfl,hx⟩,rfl⟩
 have HX:=zh hx
 clear hx hr hm
 go_wp2
 go_ret
 exact⟨by rw[<- HX.out];rfl,rfl⟩
theorem kps {a w:World} (h:Keeps a w:=by repeat(first|with_reducible exact keeps_refl _|with_reducible assumption|with_reducible refine keeps_alloc ?_ _|with_reducible refine keeps_more ?_ _ _|with_reducible refine keeps_drew ?_|with_reducible refine keeps_drewN ?_ _)):Keeps a w:=h
structure MoreBy where
 l:List Obj
 n:Nat
instance:Inhabited MoreBy:=⟨⟨[],0⟩⟩
theorem wp_region_quiet_more {P:Program} {id:Nat} {Q:Exit->Act->World->Prop} {a:Act} {w:World} {l:List Oper} (hm:P.follows .mixedOrders=true) (hB:Region.lexB .any l.toArray=true)
  (h:wpQuiet P l.toArray (fun w'=>∃ p:MoreBy,w'=more w p.l p.n) (fun a'=>∀ w',(∃ p:MoreBy,w'=more w p.l p.n)->Q .normal a' w') l a):(Code.region id l.toArray true).wp P Q a w :=
 wp_region_quiet (C:=fun w'=>∃ p:MoreBy,w'=more w p.l p.n) hm hB ⟨⟨[],w.drawn+1⟩,by simp[more]⟩ (by simpa using h)
theorem Calls.zA6 {P:Program} {f:FuncId} {args:Array Value} {w:World} {l:List Obj} {n:Nat} {v:Value}
  (h:Calls P f args (more w l n) fun e w'=>e=.returned v/\Below (more w l n).heap.size (more w l n) w'):Calls P f args (more w l n) fun e w''=>e=.returned v/\∃ p:MoreBy,w''=more w p.l p.n :=
 h.mono fun _ _ ⟨he,hb⟩=>by
   obtain⟨l2,n2,rfl⟩:=zA0 hb
   exact⟨he,⟨l++l2,n2⟩,by rw[zAO]⟩
theorem qmI {P:Program} {id:Nat} {Q:Exit->Act->World->Prop} {a:Act} {w:World} {l:List Oper}
  (h:wpQuiet P l.toArray (fun w'=>∃ p:MoreBy,w'=more w p.l p.n) (fun a'=>∀ w',(∃ p:MoreBy,w'=more w p.l p.n)->Q .normal a' w') l a) (hm:P.follows .mixedOrders=true:=by kernel_rfl) (hB:Region.lexB .any l.toArray=true:=by kernel_rfl):(Code.region id l.toArray true).wp P Q a w :=
 wp_region_quiet_more hm hB h
theorem qmE {P:Program} {ops:Array Oper} {C:World->Prop} {Q:Exit->Act->World->Prop} {a:Act} {w:World} (k:∀ lq nq,Q .normal a (more w lq nq)) :
  wpQuiet P ops C (fun a'=>∀ w',(∃ p:MoreBy,w'=more w p.l p.n)->Q .normal a' w') [] a :=
 wpQuiet_nil (by
  intro w' hw
  obtain⟨⟨lq,nq⟩,hw2⟩:=hw
  subst hw2
  exact k lq nq)
@[go_sem] theorem ga1 {a n:Nat} :(a<a+1+n)=True:=by simp;omega
@[go_sem] theorem ga2 {a n:Nat} :(a<a+1+n+1)=True:=by simp;omega
@[go_sem] theorem ga3 {a n:Nat} :(a<=a+1+n)=True:=by simp;omega
@[go_sem] theorem ga4 {a n:Nat} :(a=a+1+n)=False:=by simp;omega
@[go_sem] theorem ga5 {a n m:Nat} :(a<a+1+n+1+m)=True:=by simp;omega
end Go.Proofs.YtppghgnhlgoagaaGreatDoor
