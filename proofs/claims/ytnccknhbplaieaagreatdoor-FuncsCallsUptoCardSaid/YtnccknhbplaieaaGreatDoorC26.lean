/- Parts. -/
import Derived.Test.YtnccknhbplaieaaGreatDoorC25
import Derived.RangeFuncNested
import Derived.RangeFuncBound
import Derived.RangeFuncCalls
import Derived.RangeFuncLeaves
import Derived.Shelf.Abstract
import Derived.Shelf.RegionOpen
import Derived.OwnWalkIn
import Derived.TacticsInMore
import Derived.LoopNIn
import Derived.LoopIn
import Derived.RangeFuncBox
import Derived.Maps.AppendAt
set_option linter.all false
set_option maxRecDepth 100000
set_option maxHeartbeats 4000000
namespace Go.Proofs.YtnccknhbplaieaaGreatDoor
open Go Go.RowKit Go.Proofs.Tryz
def SeqC {α:Type} (F:Fence) (n:Nat) (P:Program) (g:Nat) (lb:Array Value) (encs:α->Array Value) (Kp:World->World->Prop) (S:List α->Prop) (bS N:Nat) (w:World):Prop :=
 ∀ (l:Nat) (J:List α->World->Prop) (W:World),Below w.heap.size w W->(∀ s W W' row,J s W->W.grownBy W' row->(∀ r,row=some r->r=bS)->J s W') ->
   (∀ pre x W1,J pre W1->pre.length<N->YieldAt F (n-1) P l (encs x) W1 fun e W'=>e=.returned (.bool true)/\J (pre++[x]) W'/\Kp W1 W') ->
   J [] W ->
   CallsIn F n P g (#[.func (.yield l) #[] #[]]++lb) W fun e W'=>(∃ v,e=.returned v)/\∃ xs,S xs/\J xs W'
def goesOn {α:Type} (Kp:World->World->Prop) (I:List α->World->Prop) (xs:List α) (W:World):Exit->Act->World->Prop
 | .normal,_,W'=>KeepsOthers W W'/\Kp W W'/\I xs W'
 | _,_,_=>False
variable {F:Fence} {n:Nat} {P:Program}
theorem range_own {α:Type} {g:Operand} {ps:Array Tmp} {assign body:Code} {Q:Exit->Act->World->Prop} {a:Act} {w:World} {bS N:Nat}
  (hro:F.round=none) (h1:1<=n) {gf:Nat} {lb:Array Value} (hg:a.eval g=.func (.func gf) #[] lb) (hFg:F.fn gf) (eg:∀ args w,(callFunc gf args).run P w=.ok (.enter gf args) w)
  {encs:α->Array Value} {Kp:World->World->Prop} {S:List α->Prop} (hseq:SeqC F (n-1) P gf lb encs Kp S bS N w) (hbS:bS<w.heap.size)
  (hKt:∀ {A B C:World},Kp A B->Kp B C->Kp A C) (hKb:∀ (W:World) (l:Nat) (o':Obj),w.heap.size<=l->Kp W (W.putObj l o')) (hps:∀ x,(encs x).size=ps.size)
  (I:List α->World->Prop) (hI:∀ s W W' row,I s W->W.grownBy W' row->(∀ r,row=some r->r=bS∨(w.heap.size<=r/\∃ o:Obj,W.heap[r]? =some o/\o.isCells=false))->I s W') (h0:I [] w) (a₁:α->Act)
  (hassign:∀ (l:Nat) (x:α) (W:World) (K:Act->World->Prop),K (a₁ x) W ->
   assign.wpIn (F.inRound l) (n-1-1) P (Exit.then K (fun _ _ _=>False)) { tmps:=(ps.zip (encs x)).foldl (fun t (p,v)=>t.setIfInBounds p v) a.tmps,defers:=[] } W)
  (hbody:∀ (l:Nat) (pre:List α) (x:α) (W:World),I pre W->pre.length<N->body.wpIn (F.inRound l) (n-1-1) P (goesOn Kp I (pre++[x]) W) (a₁ x) W)
  (hdone:∀ (D:Nat) (xs:List α) (W:World),w.heap.size<=D->S xs->I xs W->W.heap[D]? =some (.deferred (some []))->Q .normal { a with defers:= { target:=.collected D,args:=#[] } ::a.defers } W) :
  (Code.rangeFunc g ps assign body).wpIn F n P Q a w:=by
 refine wpIn_rangeFunc ?_;intro fn hw;rw[hro];obtain⟨rec,ha⟩:∃ rec:LoopState->Option Code->Loop,rec=fun st pe=> { state:=st,pending:=pe,fn,tmps:=a.tmps,params:=ps,assign,body,defers:=w.heap.size } :=⟨_,rfl⟩
 obtain⟨W1,hd⟩:=lt_ ((w.alloc (.deferred (some []))).alloc (.loop (rec .ready none)));have hc:∀ {s:List α} {W:World} {l:Nat} {o:Obj} (o':Obj),I s W->w.heap.size<=l->W.heap[l]? =some o->o.isCells=false->I s (W.putObj l o'):=fun {s W l o} o' hs hB hl ho =>
  hI s W _ (some l) hs (grownBy_putObj' W l o') (fun r e=>by cases e;exact .inr ⟨hB,o,hl,ho⟩)
 have hj:∀ {s:List α} {W:World} (o:Obj),I s W->I s (W.alloc o):=fun {s W} o hs=>hI s W _ none hs (World.grownBy_alloc W o none) (fun r e=>by cases e);have hu:W1.heap[w.heap.size+1]? =some (.loop (rec .ready none)):=by
  rw[<- hd];have:=World.alloc_heap_new (w.alloc (.deferred (some []))) (.loop (rec .ready none));rwa[World.size_alloc] at this
 have ht:W1.heap[w.heap.size]? =some (.deferred (some [])):=by
  rw[<- hd];exact(Below.heap_alloc _ _ _ (by simp)).trans (World.alloc_heap_new w _)
 have hq:I [] W1:=by rw[<- hd];exact hj _ (hj _ h0)
 have hv:Below w.heap.size w W1:=by
  rw[<- hd];exact((Below.refl _ w).alloc (Nat.le_refl _) _).alloc (by simp) _
 refine⟨w.heap.size+1,[{ target:=.collected w.heap.size,args:=#[] }],W1,{ target:=.fn (.func gf) lb,args:=#[.func (.yield (w.heap.size+1)) #[] #[]] },W1,gf,
  #[.func (.yield (w.heap.size+1)) #[] #[]]++lb,W1,?_,?_,?_,?_,fun _=>h1,?_⟩
 ·rw[<- hd,ha];exact run_enterLoop_outer _ _ _ _ _
 ·simp only[resolve,hg];simp[go_sem]
 ·intro f' hm;simp[Target.leads] at hm;subst hm;exact hFg
 ·simp[invoke,go_sem,eg]
 ·have hb:∀ {A B:World} {row:Option Nat} {l:Nat} {o:Obj},w.heap.size<=l->A.grownBy B row->(∀ r,row=some r->r=bS)->A.heap[l]? =some o->B.heap[l]? =some o:=fun {A B row l o} hl hg' hr ho =>
   (hg'.block l (Array.getElem?_eq_some_iff.1 ho).1 (fun e=>by have:=hr l e.symm;omega)).trans ho
  refine(hseq (w.heap.size+1)
   (fun pre W=>I pre W/\W.heap[w.heap.size+1]? =some (.loop (rec .ready none))/\W.heap[w.heap.size]? =some (.deferred (some [])))
   W1 hv
   (fun s A B row hs hg' hr=>⟨hI s A B row hs.1 hg' (fun r e=>.inl (hr r e)),hb (by omega) hg' hr hs.2.1,hb (Nat.le_refl _) hg' hr hs.2.2⟩)
   ?_ ⟨hq,hu,ht⟩).mono ?_
  ·rintro pre x W ⟨hi,hl,hk⟩ hh;have hC:w.heap.size+1<W.heap.size:=(Array.getElem?_eq_some_iff.1 hl).1;have hy:=run_yield (P:=P) (args:=encs x) hl (by rw[ha];exact hps x);rw[ha] at hy;refine⟨fn,_,assign,body,hy,roundIn_of_wpIn hw (hassign _ x W _ ⟨_,run_beginRound hl (by rw[ha]),?_⟩)⟩;have hA:(W.putObj (w.heap.size+1) (.loop { rec .ready none with state:=.busy })).heap[w.heap.size+1]? =some (.loop { rec .ready none with state:=.busy }):=World.putObj_heap_same hC;have hz:(W.putObj (w.heap.size+1) (.loop { rec .ready none with state:=.busy })).heap[w.heap.size]? =some (.deferred (some [])):=(World.putObj_heap_other (by omega)).trans hk;have hD:Kp W (W.putObj (w.heap.size+1) (.loop { rec .ready none with state:=.busy })):=hKb _ _ _ (by omega);refine wpIn_mono (hbody _ pre x _ (hc _ hi (by omega) hl rfl) hh) ?_;rintro e a3 W3 hp;cases e with
   | normal =>
     obtain⟨hn,hf,hx⟩:=hp;have he:=hn.same _ _ hA rfl;have hr:=run_endRound (P:=P) none he;rw[ha] at hr he;refine⟨_,_,hr,rfl,⟨hc _ hx (by omega) he rfl,?_,?_⟩,hKt (hKt hD hf) (hKb _ _ _ (by omega))⟩
     ·rw[ha];exact World.putObj_heap_same (Array.getElem?_eq_some_iff.1 he).1
     ·exact(World.putObj_heap_other (by omega)).trans (hn.same _ _ hz rfl)
   | ret=>exact hp.elim
   | exit id=>exact hp.elim
   | goto t=>exact hp.elim
   | panic ch=>exact hp.elim
   | outgrown=>exact hp.elim
  ·rintro e W2 ⟨⟨v,rfl⟩,xs,hS,hi,hl,hk⟩;exact⟨none,_,by have:=run_endLoop (P:=P) hl (by rw[ha];simp);rw[ha] at this;exact this,hdone _ xs _ (Nat.le_refl _) hS (hc _ hi (by omega) hl rfl) ((World.putObj_heap_other (by omega)).trans hk)⟩
end Go.Proofs.YtnccknhbplaieaaGreatDoor
namespace Go.Proofs.YtnccknhbplaieaaGreatDoor
open Go Go.RowKit Go.Shelf
open Go.Lib renaming hid->zh
attribute [local go_sem] Oper.semAt_some
def splitGo:Nat->List UInt8->List (List UInt8)
 | 0,l=>[l]
 | f+1,l=>if Lib.index l [32]<0 then [l] else l.take (Lib.index l [32]).toNat::splitGo f (l.drop ((Lib.index l [32]).toNat+1))
def splitX (l:List UInt8):List ByteArray:=(splitGo (l.length+1) l).map fun x=>⟨x.toArray⟩
def KeptBut (b n2:Nat) (A B:World):Prop:=A.heap.size<=B.heap.size/\∀ k,k≠b->k<n2->B.heap[k]? =A.heap[k]?
theorem KeptBut.cell {b n2 k i:Nat} {A B:World} {v:Value} (h:KeptBut b n2 A B) (hk:k≠b) (h2:k<n2) (hv:A.cell? ⟨k,i,none⟩=some v):B.cell? ⟨k,i,none⟩=some v :=
 (World.cell?_of_block (a:=⟨k,i,none⟩) (h.2 k hk h2)).trans hv
theorem KeptBut.frozen {b n2 k i:Nat} {A B:World} (h:KeptBut b n2 A B) (hk:k≠b) (h2:k<n2):B.frozen? ⟨k,i,none⟩=A.frozen? ⟨k,i,none⟩ :=
 World.frozen?_of_block (a:=⟨k,i,none⟩) (h.2 k hk h2)
def leftAt (b:Nat) (w:World):Nat:=match w.cell? ⟨b,0,none⟩ with
 | some (.string s)=>s.size
 | _=>0
theorem split_seq (n:Nat) (h1n:1<=n) (bSep bS bSave bW n2:Nat) (hne:bSep≠bS/\bSave≠bS/\bSep≠bW/\bS≠bW/\bSave≠bW) (hn:bSep<n2/\bS<n2/\bSave<n2) (hbW:2<bW) (hn2:2<n2) (hbS2:2<bS) (ls:List UInt8) (hls:ls.length<=1048576) (w:World) (hnw:n2<=w.heap.size) (hM:MaxL w)
  (hsep:w.cell? ⟨bSep,0,none⟩=some (.string ⟨#[32]⟩)) (hs:w.cell? ⟨bS,0,none⟩=some (.string ⟨ls.toArray⟩)) (hfz:w.frozen? ⟨bS,0,none⟩=false) (hsave:w.cell? ⟨bSave,0,none⟩=some (.int .i64 0)) :
  SeqC Fence.wide n Tryz.prog 342 #[.pointer (some ⟨bSep,0,none⟩),.pointer (some ⟨bS,0,none⟩),.pointer (some ⟨bSave,0,none⟩)] (fun x:ByteArray=>#[.string x]) (KeptBut bW n2) (fun xs=>xs=splitX ls) bS (splitX ls).length w:=by
 intro l J W hW hJ hY h0;have c1:=(hW.cell (p:=⟨bSep,0,none⟩) (show bSep<w.heap.size by omega)).trans hsep;have c2:=(hW.cell (p:=⟨bS,0,none⟩) (show bS<w.heap.size by omega)).trans hs;have c3:=(hW.cell (p:=⟨bSave,0,none⟩) (show bSave<w.heap.size by omega)).trans hsave;have f2:W.frozen? ⟨bS,0,none⟩=false:=(World.frozen?_of_block (a:=⟨bS,0,none⟩) (hW.block bS (by omega))).trans hfz;have hg:=hM.below hW;have hWs:=hW.size;refine callsIn_of_wp Tryz.func342 rfl trivial ?_ rfl;simp only[Tryz.ntmps342,List.size_toArray,List.length_cons,List.length_nil,Nat.reduceAdd,Nat.reduceSub,Array.replicate_succ,Array.replicate_zero,List.push_toArray,List.append_toArray,List.nil_append,List.cons_append]
 gi_wp2
 gi_loopw [7] (fun _ wr=>∃ (f:Nat) (pre:List ByteArray) (rest:List UInt8),splitX ls=pre++(splitGo f rest).map (fun x=>⟨x.toArray⟩)/\rest.length<f/\rest.length<=1048576/\J pre wr/\W.heap.size<=wr.heap.size/\MaxL wr/\wr.cell? ⟨bSep,0,none⟩=some (.string ⟨#[32]⟩)/\wr.cell? ⟨bS,0,none⟩=some (.string ⟨rest.toArray⟩)/\wr.frozen? ⟨bS,0,none⟩=false/\wr.cell? ⟨bSave,0,none⟩=some (.int .i64 0)) (fun _ wr=>leftAt bS wr)
 case atStart=>exact⟨ls.length+1,[],ls,rfl,Nat.lt_succ_self _,hls,h0,Nat.le_refl _,hg,c1,c2,f2,c3⟩
 case round =>
  obtain⟨f,pre,rest,hx,hf,hr,hd,hws,hm,d1,d2,e2,d3⟩:=hrel;obtain⟨f,rfl⟩:∃ k,f=k+1:=⟨f-1,by omega⟩
  clear c1 c2 c3 f2;have HM:=zh hm;have hb:=zh (fun w h=>index_any ⟨rest.toArray⟩ ⟨#[32]⟩ w h (by show rest.length<_;omega));rw[splitGo] at hx;obtain⟨z,hz⟩:=lt_ (Lib.index rest [32]);have he:Lib.index (⟨rest.toArray⟩:ByteArray).data.toList (⟨#[32]⟩:ByteArray).data.toList=z:=hz;rw[he] at hb;rw[hz] at hx;have hj:0<=z->z+1<=rest.length:=fun h=>by have:=Lib.index_room rest [32] (by rw[hz];exact h);rw[hz] at this;simpa using this
  clear hz he hm;by_cases hneg:z<0
  ·rw[if_pos hneg] at hx;obtain⟨fn,tmps,assign,body,hy,hR⟩:=hY pre ⟨rest.toArray⟩ wr hd (by have:=congrArg List.length hx;simp at this;omega)
   gi_wp2_with (refine⟨trivial,?_⟩;gi_at_call 285;refine(callsIn_wide.2 (hb.out _ HM.out)).mono ?_;rintro e w1 ⟨rfl,rfl⟩)
   refine hR.mono ?_;rintro e W2 ⟨rfl,hc,ha⟩
   gi_wp2
   go_end0
   exact⟨⟨_,rfl⟩,splitX ls,rfl,by rw[hx];exact hc⟩
  ·rw[if_neg hneg] at hx;obtain⟨i,rfl⟩:∃ i:Nat,z=(i:Int):=⟨z.toNat,by omega⟩
   have hil:=hj (by omega);have hw1:IntKind.i64.wrap (i:Int)=(i:Int):=by rw[IntKind.wrap_i64];omega
   have hw2:IntKind.i64.wrap ((i:Int)+1)=(i:Int)+1:=by rw[IntKind.wrap_i64];omega
   have hi0:(0:Int)<=(i:Int):=by omega
   have hi1:(i:Int)<=(rest.length:Int):=by omega
   have hi2:(i:Int)+1<=(rest.length:Int):=by omega
   have hi3:(0:Int)<=(i:Int)+1:=by omega
   rw[Int.toNat_natCast] at hx;have hsz:(⟨rest.toArray⟩:ByteArray).size=rest.length:=rfl;obtain⟨fn,tmps,assign,body,hy,hR⟩:=hY pre ((⟨rest.toArray⟩:ByteArray).extract 0 i) wr hd (by have:=congrArg List.length hx;simp at this;omega)
   gi_wp2_with (refine⟨trivial,?_⟩;gi_at_call 285;refine(callsIn_wide.2 (hb.out _ HM.out)).mono ?_;rintro e w1 ⟨rfl,rfl⟩)
   refine hR.mono ?_;rintro e W2 ⟨rfl,hc,ha⟩;have g1:=ha.cell (by omega) (by omega) d1;have g2:=ha.cell (by omega) (by omega) d2;have g3:=ha.cell (by omega) (by omega) d3;have e3:=(ha.frozen (i:=0) (show bS≠bW by omega) (by omega)).trans e2
   gi_wp2
   go_roundw;case rel =>
    have hh:W2.cell? ⟨2,0,none⟩=w1.cell? ⟨2,0,none⟩:=World.cell?_of_block (a:=⟨2,0,none⟩) (ha.2 2 (by omega) (by omega));obtain⟨mm,hi⟩:=HM.out;refine⟨f,pre++[(⟨rest.toArray⟩:ByteArray).extract 0 i],rest.drop (i+1),?_,by rw[List.length_drop];omega,by rw[List.length_drop];omega,hJ _ W2 _ (some bS) hc (grownBy_setCell' W2 bS _) (fun r e=>by cases e;rfl),?_,⟨mm,?_⟩,?_,?_,?_,?_⟩
    ·rw[hx,extract_take];simp
    ·have:=ha.1;rw[World.size_setCell];omega
    ·rw[World.cell?_setCell_other (h:=addr_ne (show bS≠2 by omega))];exact hh.trans hi
    ·rw[World.cell?_setCell_other (h:=addr_ne (show bS≠bSep by omega))];exact g1
    ·rw[extract_drop];exact World.cell?_setCell_same' _ _ _ (by rw[g2];rfl)
    ·rw[World.frozen?_setCell];exact e3
    ·rw[World.cell?_setCell_other (h:=addr_ne (show bS≠bSave by omega))];exact g3
   case measure =>
    have q1:leftAt bS w1=rest.length:=by unfold leftAt;rw[d2];rfl
    have q2:leftAt bS (W2.setCell ⟨bS,0,none⟩ (.string ((⟨rest.toArray⟩:ByteArray).extract (i+1) rest.length)))=(rest.drop (i+1)).length:=by
     unfold leftAt;rw[World.cell?_setCell_same' _ _ _ (by rw[g2];rfl),extract_drop]
     rfl
    rw[q1,q2,List.length_drop];omega
attribute [local go_sem] Oper.semAt_some
theorem splitGo_len:∀ (f:Nat) (l:List UInt8),(splitGo f l).length<=f+1
 | 0,l=>by simp[splitGo]
 | f+1,l=>by
   rw[splitGo];split
   ·simp
   ·have:=splitGo_len f (l.drop ((Lib.index l [32]).toNat+1));simp only[List.length_cons];omega
theorem splitGo_le:∀ (f:Nat) (l x:List UInt8),x∈splitGo f l->x.length<=l.length
 | 0,l,x,h=>by
   simp only[splitGo,List.mem_singleton] at h;rw[h];exact Nat.le_refl _
 | f+1,l,x,h=>by
   rw[splitGo] at h;split at h
   ·simp only[List.mem_singleton] at h;rw[h];exact Nat.le_refl _
   ·rcases List.mem_cons.1 h with rfl|h
    ·rw[List.length_take];omega
    ·have:=splitGo_le f _ x h;rw[List.length_drop] at this;omega
theorem join_le (sep:List UInt8) (m:Nat):∀ xs:List (List UInt8),(∀ x∈xs,x.length<=m)->(Lib.join xs sep).length<=xs.length*(m+sep.length)
 | [],_=>by simp[Lib.join_nil]
 | [x],h=>by
   rw[Lib.join_one];have:=h x List.mem_cons_self;simp;omega
 | x::y::r,h=>by
   have h1:=h x List.mem_cons_self;have h2:=join_le sep m (y::r) (fun z hz=>h z (List.mem_cons_of_mem _ hz));have e:Lib.join (x::y::r) sep=x++sep++Lib.join (y::r) sep:=by simp[Lib.join,List.intercalate]
   rw[e,List.length_append,List.length_append];simp only[List.length_cons] at h2 ⊢;have e2:(r.length+1+1)*(m+sep.length)=(r.length+1)*(m+sep.length)+(m+sep.length):=by rw[Nat.succ_mul]
   omega
def wordsOf (xs:List ByteArray):List ByteArray:=xs.filter fun x=> !x.toList.isEmpty
def trimX (s:ByteArray):ByteArray:=⟨(Lib.join ((wordsOf (splitX s.data.toList)).map (·.data.toList)) [32]).toArray⟩
theorem words_hit (pre:List ByteArray) {x:ByteArray} (h:x.toList.isEmpty=false):wordsOf (pre++[x])=wordsOf pre++[x]:=by simp[wordsOf,h]
theorem words_miss (pre:List ByteArray) {x:ByteArray} (h:x.toList.isEmpty=true):wordsOf (pre++[x])=wordsOf pre:=by simp[wordsOf,h]
theorem infoStr:(Tryz.prog.info? 9).map (fun i=>(i.zero,i.size,i.bytes))=some (some (.string ⟨#[]⟩),1,16):=by kernel_rfl
theorem split_new (s:ByteArray) (w:World):Calls Tryz.prog 322 #[.string s,.string ⟨#[32]⟩,.int .i64 0] w fun e w'=>e=.returned (.func (.func 342) #[] #[.pointer (some ⟨w.heap.size+1,0,none⟩),.pointer (some ⟨w.heap.size,0,none⟩),.pointer (some ⟨w.heap.size+2,0,none⟩)]) /\
  w'=((w.alloc (.cells #[.string s] 9)).alloc (.cells #[.string ⟨#[32]⟩] 9)).alloc (.cells #[.int .i64 0] 3):=by
 go_enter Tryz.func322,Tryz.ntmps322;go_wp2;all_goals(go_returns;exact⟨rfl,rfl⟩)
theorem split_call (s:ByteArray) (w:World):Calls Tryz.prog 283 #[.string s,.string ⟨#[32]⟩] w fun e w'=>e=.returned (.func (.func 342) #[] #[.pointer (some ⟨w.heap.size+1,0,none⟩),.pointer (some ⟨w.heap.size,0,none⟩),.pointer (some ⟨w.heap.size+2,0,none⟩)]) /\
  w'=((w.alloc (.cells #[.string s] 9)).alloc (.cells #[.string ⟨#[32]⟩] 9)).alloc (.cells #[.int .i64 0] 3):=by
 go_enter Tryz.func283,Tryz.ntmps283;go_wp2_with(go_at_call 322;refine(split_new s _).mono ?_;rintro e w1 ⟨rfl,rfl⟩)
 all_goals(go_returns;exact⟨rfl,rfl⟩)
theorem join_words (ws:List ByteArray) (v:Value) (base:Nat) (w:World) (h:w.ownsRow base 9 1 v ws.length (ws.map Value.string)) (hl:ws.length<=1048600) (hx:∀ x∈ws,x.size<=1048576) :
  Rt 284 #[v,.string ⟨#[32]⟩] w (.string ⟨(Lib.join (ws.map (·.data.toList)) [32]).toArray⟩):=by
 have ha:(Lib.join (ws.map (·.data.toList)) [32]).length<=140737488355328:=by
  have h1:=join_le [32] 1048576 (ws.map (·.data.toList)) (fun y hy=>by
   obtain⟨x,hm,rfl⟩:=List.mem_map.1 hy;have:=hx x hm;show x.data.toList.length<=_;rw[Array.length_toList];exact this)
  rw[List.length_map] at h1;simp only[List.length_cons,List.length_nil] at h1;have h2:ws.length*(1048576+(0+1))<=1048600*(1048576+(0+1)):=Nat.mul_le_mul_right _ hl;omega
 rcases h.2 with ⟨rfl,h0⟩|⟨g,cap,cur,rfl,hb,hg,hd,_,_,_⟩
 ·obtain rfl:ws=[]:=List.length_eq_zero_iff.1 h0;refine(Tryz.strings_Join_none none 0 ⟨#[32]⟩ w).mono ?_;rintro e w' ⟨rfl,rfl⟩;exact⟨rfl,Below.refl _ _⟩
 ·have hc:g<w.heap.size:=(Array.getElem?_eq_some_iff.1 hg).1;exact Tryz.strings_Join g 0 cap ws ⟨#[32]⟩ w (fun j x hj=>by
   have:=h.cells (g:=g) rfl j (.string x) (by simp[hj]);have e:(⟨g,0,none⟩:Addr).add j=⟨g,0+j,none⟩:=by unfold Addr.add;split<;>simp_all
   rw[e] at this;exact this) hc (by omega) hd ha
theorem box_appended {W w1:World} {n₀ b0 B:Nat} {t e:TypeId} {size:Nat} {v v':Value} {k m:Nat} {xs ys:List Value} {tmp:Obj}
  (hv:Boxed W B t v) (hte:t≠e) (hrow:W.ownsRow n₀ e size v k xs) (hn₀:n₀<=W.heap.size) (hB:b0<=B) (hb0:b0<=n₀)
  (hown':w1.ownsRow n₀ e size v' m ys) (hgrow:(W.alloc tmp).grownBy w1 v.ownBlock) :
  Boxed w1 B t v/\Boxed (w1.setCell ⟨B,0,none⟩ v') B t v'/\(w1.setCell ⟨B,0,none⟩ v').ownsRow n₀ e size v' m ys/\KeepsOthers W (w1.setCell ⟨B,0,none⟩ v')/\Below b0 W (w1.setCell ⟨B,0,none⟩ v')/\KeptBut B n₀ W (w1.setCell ⟨B,0,none⟩ v'):=by
 have ha:Boxed w1 B t v:=(hv.alloc tmp).kept hgrow (hv.not_row hte hrow);have hc:∀ j,v.ownBlock=some j->n₀<=j:=fun j ej=>by
  rcases hrow.2 with ⟨rfl,_⟩|⟨g,cap,cur,rfl,hb,_,_⟩
  ·simp[Value.ownBlock] at ej
  ·obtain rfl:g=j:=by simpa [Value.ownBlock] using ej
   exact hb
 refine⟨ha,ha.set v',hown'.kept (grownBy_setCell' w1 B v') (.inr (ha.not_row hte hown').symm),?_,?_,?_,?_⟩
 ·refine((KeepsOthers.alloc W tmp).trans (KeepsOthers.of_grownBy hgrow fun j o ej hj=> ?_)).trans (KeepsOthers.setCell _ _ _);rcases(hrow.alloc tmp).2 with ⟨rfl,_⟩|⟨g,cap,cur,rfl,_,hd,_⟩
  ·simp[Value.ownBlock] at ej
  ·obtain rfl:g=j:=by simpa [Value.ownBlock] using ej
   rw[hd] at hj;cases hj;rfl
 ·exact(((Below.refl b0 W).alloc (by omega) tmp).grown hgrow (by simp;omega) fun j ej=>Nat.le_trans hb0 (hc j ej)).setCell (p:=⟨B,0,none⟩) hB v'
 ·have h1:=hgrow.size;simp only[World.size_alloc,World.size_setCell] at h1 ⊢;omega
 ·intro j hj hjn;have h1:(W.alloc tmp).heap[j]? =W.heap[j]? :=Lib.alloc_old W tmp j (by omega);have h2:w1.heap[j]? =(W.alloc tmp).heap[j]? :=hgrow.block j (by simp;omega) (fun e=>by have:=hc j e.symm;omega);have h3:(w1.setCell ⟨B,0,none⟩ v').heap[j]? =w1.heap[j]? :=(grownBy_setCell' w1 B v').block j (by have:=hgrow.size;simp at this;omega) (fun e=>hj (by cases e;rfl));exact h3.trans (h2.trans h1)
theorem texts_trim (s:ByteArray) (hs:s.size<=1048576) (w:World) (hM:MaxL w):Rt 217 #[.string s] w (.string (trimX s)):=by
 obtain⟨i0,hi,hI,hJ,hL⟩:=info_parts infoStr;have h2:2<w.heap.size:=by obtain⟨m,hm⟩:=hM;exact World.block_lt_of_cell? w _ hm
 have hpl:(splitX s.data.toList).length<=1048578:=by
  have:=splitGo_len (s.data.toList.length+1) s.data.toList;rw[splitX,List.length_map];rw[show s.data.toList.length=s.size by rw[Array.length_toList];rfl] at this ⊢;omega
 refine(callsIn_wide (n:=4)).1 ?_;refine callsIn_of_wp_marks Tryz.func217 rfl trivial ?_ rfl;simp only[Tryz.ntmps217,List.size_toArray,List.length_cons,List.length_nil,Nat.reduceAdd,Nat.reduceSub,Array.replicate_succ,Array.replicate_zero,List.push_toArray,List.append_toArray,List.nil_append,List.cons_append]
 gi_wp2_with (refine⟨trivial,?_⟩;gi_at_call 283;refine(callsIn_wide.2 (split_call s _)).mono ?_;rintro e w' ⟨rfl,rfl⟩)
 obtain⟨W0,hf⟩:=lt_ ((((w.alloc (.cells #[.slice none 0 0] 93)).alloc (.cells #[.string s] 9)).alloc (.cells #[.string ⟨#[32]⟩] 9)).alloc (.cells #[.int .i64 0] 3));have hsz:W0.heap.size=w.heap.size+4:=by rw[<- hf];simp
 have hp:Below w.heap.size w W0:=by rw[<- hf];exact bel
 have bW:Boxed W0 w.heap.size 93 (.slice none 0 0):=by rw[<- hf];exact(((Boxed.new w _ _).alloc _).alloc _).alloc _
 have b1:=Boxed.new (w.alloc (.cells #[.slice none 0 0] 93)) 9 (.string s);have b2:=Boxed.new ((w.alloc (.cells #[.slice none 0 0] 93)).alloc (.cells #[.string s] 9)) 9 (.string ⟨#[32]⟩);have b3:=Boxed.new (((w.alloc (.cells #[.slice none 0 0] 93)).alloc (.cells #[.string s] 9)).alloc (.cells #[.string ⟨#[32]⟩] 9)) 3 (.int .i64 0);simp only[World.size_alloc] at b1 b2 b3;have b1:=(b1.alloc (.cells #[.string ⟨#[32]⟩] 9)).alloc (.cells #[.int .i64 0] 3);have b2:=b2.alloc (.cells #[.int .i64 0] 3);rw[hf] at b1 b2 b3;have k1:=b1.cell;have k2:=b2.cell;have k3:=b3.cell;have kf:=b1.frozen;rw[<- mk_data s] at k1;have hw:=hM.below hp;have hn:=split_seq 3 (by decide) (w.heap.size+2) (w.heap.size+1) (w.heap.size+3) w.heap.size (w.heap.size+4) (by omega) (by omega) h2 (by omega) (by omega) s.data.toList (by rw[Array.length_toList];exact hs) W0 (by omega) hw k2 k1 kf k3;have hF:∀ x∈splitX s.data.toList,x.size<=1048576:=by
  intro x hx;obtain⟨y,hy,rfl⟩:=List.mem_map.1 hx;have:=splitGo_le _ _ y hy;rw[Array.length_toList] at this;exact Nat.le_trans this hs
 rw[hf];refine range_own rfl (by decide) (gf:=342) (lb:=#[.pointer (some ⟨w.heap.size+2,0,none⟩),.pointer (some ⟨w.heap.size+1,0,none⟩),.pointer (some ⟨w.heap.size+3,0,none⟩)]) rfl trivial (enters_of Tryz.func342 (by kernel_rfl) rfl) hn (by omega) ?kt ?kb (fun _=>rfl)
  (fun pre W=>(∃ v,Boxed W w.heap.size 93 v/\W.ownsRow W0.heap.size 9 1 v (wordsOf pre).length ((wordsOf pre).map Value.string))/\Below w.heap.size w W/\W0.heap.size<=W.heap.size) ?own ?start
  (fun x=> { tmps:=#[.string s,undef,.string ⟨#[]⟩,.pointer (some ⟨w.heap.size,0,none⟩),.string x,.string s,.func (.func 342) #[] #[.pointer (some ⟨w.heap.size+2,0,none⟩),.pointer (some ⟨w.heap.size+1,0,none⟩),.pointer (some ⟨w.heap.size+3,0,none⟩)],.string x,undef,undef,undef,undef,undef,undef,undef,undef],defers:=[] }) ?assign ?body ?done
 case kt=>exact fun h k=>⟨Nat.le_trans h.1 k.1,fun j hj h2=>(k.2 j hj h2).trans (h.2 j hj h2)⟩
 case kb=>exact fun W l o' hl=>⟨by simp[World.putObj],fun j _ h2=>World.putObj_heap_other (by omega)⟩
 case own =>
  rintro pre A B row ⟨⟨v,hv,hr⟩,hb,hd⟩ hg ha;refine⟨⟨v,hv.kept hg (fun e=> ?_),hr.kept hg ?_⟩,hb.grown hg (by have:=hb.size;omega) (fun k e=> ?_),by have:=hg.size;omega⟩
  ·rcases ha _ e.symm with h|h
   ·omega
   ·omega
  ·rcases hr.2 with ⟨rfl,_⟩|⟨g,cap,cur,rfl,hge,hA,_⟩
   ·exact .inl rfl
   ·refine .inr fun e'=> ?_;rcases ha g e'.symm with h|⟨_,o,ho,hc⟩
    ·omega
    ·rw[hA] at ho;cases ho;cases hc
  ·rcases ha _ e with h|h
   ·omega
   ·omega
 case start=>exact⟨⟨_,bW,World.ownsRow_nil _ _ _ _⟩,hp,Nat.le_refl _⟩
 case assign =>
  intro l x W K hK
  gi_wp2
  exact hK
 case body =>
  rintro l pre x W ⟨⟨v,hv,ha⟩,hB,hd⟩ hlt;have hc:=hv.cell;have hu:(wordsOf pre).length<=pre.length:=List.length_filter_le _ _;have hml:maxLen=9223372036854775807:=by decide
  cases hx:x.toList.isEmpty with
  | false =>
    gi_wp2_with (gi_at_builtin;refine wpListIn_append_own _ rfl _ _ 93 rfl W0.heap.size 9 i0 (.string ⟨#[]⟩) 1 16 Tryz.underlying93 hi hI hJ hL rfl (by decide) _ _ _ rfl (ha.alloc _) ⟨W.heap.size,0,none⟩ 1 1 [.string x] rfl rfl (cell_one_new _ _ _) (by simp[Value.oneCell']) (by omega) (by omega) (by simp;omega) ?_;intro v' w1 he hh _;obtain⟨g',cap',rfl⟩:=ownsRow_succ he;obtain⟨ht,hH,hG,hE,hz,hk⟩:=box_appended (b0:=w.heap.size) hv (by decide) ha hd (Nat.le_refl _) (by omega) he hh;have hc1:=ht.cell;have hf1:=ht.frozen)
    exact⟨hE,⟨hk.1,fun j hj h3=>hk.2 j hj (by omega)⟩,⟨_,hH,by rw[words_hit pre hx];simpa using hG⟩,hB.trans hz,by have:=hk.1;omega⟩
  | true =>
    gi_wp2
    exact⟨KeepsOthers.refl _,⟨Nat.le_refl _,fun _ _ _=>rfl⟩,⟨v,hv,by rw[words_miss pre hx];exact ha⟩,hB,hd⟩
 case done =>
  rintro D ys W hD rfl ⟨⟨v,hv,ha⟩,hB,hd⟩ hK;have hc:=hv.cell;have hu:(wordsOf (splitX s.data.toList)).length<=1048600:=by
   have:(wordsOf (splitX s.data.toList)).length<=(splitX s.data.toList).length:=List.length_filter_le _ _;omega
  have hC:=join_words _ v _ W ha hu (fun x hx=>hF x (List.mem_filter.1 hx).1)
  gi_wp2_with (refine⟨trivial,?_⟩;gi_at_call 284;refine(callsIn_wide.2 hC).mono ?_;rintro e w1 ⟨rfl,hb⟩)
  have hq:w1.heap[D]? =some (.deferred (some [])):=(hb.block D (Array.getElem?_eq_some_iff.1 hK).1).trans hK;refine⟨by simp,.inl ⟨_,_,rfl,run_takeDeferred hq,?_⟩⟩;refine⟨_,results_tmp rfl _ _ _,rfl,?_⟩;exact(hB.trans (hb.mono hB.size)).trans (belowK_b (w:=w) (Nat.le_refl _) w1 D _ _ (by omega) hq rfl rfl)
end Go.Proofs.YtnccknhbplaieaaGreatDoor
namespace Go.Proofs.YtnccknhbplaieaaGreatDoor
open Go Go.RowKit Go.Proofs.Tryz
def SeqT {α:Type} (F:Fence) (n:Nat) (P:Program) (g:Nat) (lb:Array Value) (encs:α->Array Value) (Kp:World->World->Prop) (S:List α->Prop) (N:Nat) (w:World):Prop :=
 ∀ (l:Nat) (J:List α->World->Prop) (W:World),Below w.heap.size w W->(∀ s W W' row,J s W->W.grownBy W' row->(∀ r,row=some r->False)->J s W') ->
   (∀ pre x W1,J pre W1->pre.length<N->YieldAt F (n-1) P l (encs x) W1 fun e W'=>e=.returned (.bool true)/\J (pre++[x]) W'/\Kp W1 W') ->
   J [] W ->
   CallsIn F n P g (#[.func (.yield l) #[] #[]]++lb) W fun e W'=>(∃ v,e=.returned v)/\∃ xs,S xs/\J xs W'
def goesOnT {α:Type} (Kp:World->World->Prop) (I:List α->World->Prop) (xs:List α) (W:World):Exit->Act->World->Prop
 | .normal,_,W'=>KeepsOthers W W'/\Kp W W'/\I xs W'
 | _,_,_=>False
variable {F:Fence} {n:Nat} {P:Program}
theorem range_ownT {α:Type} {g:Operand} {ps:Array Tmp} {assign body:Code} {Q:Exit->Act->World->Prop} {a:Act} {w:World} {N:Nat}
  (hro:F.round=none) (h1:1<=n) {gf:Nat} {lb:Array Value} (hg:a.eval g=.func (.func gf) #[] lb) (hFg:F.fn gf) (eg:∀ args w,(callFunc gf args).run P w=.ok (.enter gf args) w)
  {encs:α->Array Value} {Kp:World->World->Prop} {S:List α->Prop} (hseq:SeqT F (n-1) P gf lb encs Kp S N w)
  (hKt:∀ {A B C:World},Kp A B->Kp B C->Kp A C) (hKb:∀ (W:World) (l:Nat) (o':Obj),w.heap.size<=l->Kp W (W.putObj l o')) (hps:∀ x,(encs x).size=ps.size)
  (I:List α->World->Prop) (hI:∀ s W W' row,I s W->W.grownBy W' row->(∀ r,row=some r->(w.heap.size<=r/\∃ o:Obj,W.heap[r]? =some o/\o.isCells=false))->I s W') (h0:I [] w) (a₁:α->Act)
  (hassign:∀ (l:Nat) (x:α) (W:World) (K:Act->World->Prop),K (a₁ x) W ->
   assign.wpIn (F.inRound l) (n-1-1) P (Exit.then K (fun _ _ _=>False)) { tmps:=(ps.zip (encs x)).foldl (fun t (p,v)=>t.setIfInBounds p v) a.tmps,defers:=[] } W)
  (hbody:∀ (l:Nat) (pre:List α) (x:α) (W:World),I pre W->pre.length<N->body.wpIn (F.inRound l) (n-1-1) P (goesOnT Kp I (pre++[x]) W) (a₁ x) W)
  (hdone:∀ (D:Nat) (xs:List α) (W:World),w.heap.size<=D->S xs->I xs W->W.heap[D]? =some (.deferred (some []))->Q .normal { a with defers:= { target:=.collected D,args:=#[] } ::a.defers } W) :
  (Code.rangeFunc g ps assign body).wpIn F n P Q a w:=by
 refine wpIn_rangeFunc ?_;intro fn hw;rw[hro];obtain⟨rec,ha⟩:∃ rec:LoopState->Option Code->Loop,rec=fun st pe=> { state:=st,pending:=pe,fn,tmps:=a.tmps,params:=ps,assign,body,defers:=w.heap.size } :=⟨_,rfl⟩
 obtain⟨W1,hd⟩:=lt_ ((w.alloc (.deferred (some []))).alloc (.loop (rec .ready none)));have hc:∀ {s:List α} {W:World} {l:Nat} {o:Obj} (o':Obj),I s W->w.heap.size<=l->W.heap[l]? =some o->o.isCells=false->I s (W.putObj l o'):=fun {s W l o} o' hs hB hl ho =>
  hI s W _ (some l) hs (grownBy_putObj' W l o') (fun r e=>by cases e;exact⟨hB,o,hl,ho⟩)
 have hj:∀ {s:List α} {W:World} (o:Obj),I s W->I s (W.alloc o):=fun {s W} o hs=>hI s W _ none hs (World.grownBy_alloc W o none) (fun r e=>by cases e);have hu:W1.heap[w.heap.size+1]? =some (.loop (rec .ready none)):=by
  rw[<- hd];have:=World.alloc_heap_new (w.alloc (.deferred (some []))) (.loop (rec .ready none));rwa[World.size_alloc] at this
 have ht:W1.heap[w.heap.size]? =some (.deferred (some [])):=by
  rw[<- hd];exact(Below.heap_alloc _ _ _ (by simp)).trans (World.alloc_heap_new w _)
 have hq:I [] W1:=by rw[<- hd];exact hj _ (hj _ h0)
 have hv:Below w.heap.size w W1:=by
  rw[<- hd];exact((Below.refl _ w).alloc (Nat.le_refl _) _).alloc (by simp) _
 refine⟨w.heap.size+1,[{ target:=.collected w.heap.size,args:=#[] }],W1,{ target:=.fn (.func gf) lb,args:=#[.func (.yield (w.heap.size+1)) #[] #[]] },W1,gf,
  #[.func (.yield (w.heap.size+1)) #[] #[]]++lb,W1,?_,?_,?_,?_,fun _=>h1,?_⟩
 ·rw[<- hd,ha];exact run_enterLoop_outer _ _ _ _ _
 ·simp only[resolve,hg];simp[go_sem]
 ·intro f' hm;simp[Target.leads] at hm;subst hm;exact hFg
 ·simp[invoke,go_sem,eg]
 ·have hb:∀ {A B:World} {row:Option Nat} {l:Nat} {o:Obj},w.heap.size<=l->A.grownBy B row->(∀ r,row=some r->False)->A.heap[l]? =some o->B.heap[l]? =some o:=fun {A B row l o} hl hg' hr ho =>
   (hg'.block l (Array.getElem?_eq_some_iff.1 ho).1 (fun e=>(hr l e.symm).elim)).trans ho
  refine(hseq (w.heap.size+1)
   (fun pre W=>I pre W/\W.heap[w.heap.size+1]? =some (.loop (rec .ready none))/\W.heap[w.heap.size]? =some (.deferred (some [])))
   W1 hv
   (fun s A B row hs hg' hr=>⟨hI s A B row hs.1 hg' (fun r e=>(hr r e).elim),hb (by omega) hg' hr hs.2.1,hb (Nat.le_refl _) hg' hr hs.2.2⟩)
   ?_ ⟨hq,hu,ht⟩).mono ?_
  ·rintro pre x W ⟨hi,hl,hk⟩ hh;have hC:w.heap.size+1<W.heap.size:=(Array.getElem?_eq_some_iff.1 hl).1;have hy:=run_yield (P:=P) (args:=encs x) hl (by rw[ha];exact hps x);rw[ha] at hy;refine⟨fn,_,assign,body,hy,roundIn_of_wpIn hw (hassign _ x W _ ⟨_,run_beginRound hl (by rw[ha]),?_⟩)⟩;have hA:(W.putObj (w.heap.size+1) (.loop { rec .ready none with state:=.busy })).heap[w.heap.size+1]? =some (.loop { rec .ready none with state:=.busy }):=World.putObj_heap_same hC;have hz:(W.putObj (w.heap.size+1) (.loop { rec .ready none with state:=.busy })).heap[w.heap.size]? =some (.deferred (some [])):=(World.putObj_heap_other (by omega)).trans hk;have hD:Kp W (W.putObj (w.heap.size+1) (.loop { rec .ready none with state:=.busy })):=hKb _ _ _ (by omega);refine wpIn_mono (hbody _ pre x _ (hc _ hi (by omega) hl rfl) hh) ?_;rintro e a3 W3 hp;cases e with
   | normal =>
     obtain⟨hn,hf,hx⟩:=hp;have he:=hn.same _ _ hA rfl;have hr:=run_endRound (P:=P) none he;rw[ha] at hr he;refine⟨_,_,hr,rfl,⟨hc _ hx (by omega) he rfl,?_,?_⟩,hKt (hKt hD hf) (hKb _ _ _ (by omega))⟩
     ·rw[ha];exact World.putObj_heap_same (Array.getElem?_eq_some_iff.1 he).1
     ·exact(World.putObj_heap_other (by omega)).trans (hn.same _ _ hz rfl)
   | ret=>exact hp.elim
   | exit id=>exact hp.elim
   | goto t=>exact hp.elim
   | panic ch=>exact hp.elim
   | outgrown=>exact hp.elim
  ·rintro e W2 ⟨⟨v,rfl⟩,xs,hS,hi,hl,hk⟩;exact⟨none,_,by have:=run_endLoop (P:=P) hl (by rw[ha];simp);rw[ha] at this;exact this,hdone _ xs _ (Nat.le_refl _) hS (hc _ hi (by omega) hl rfl) ((World.putObj_heap_other (by omega)).trans hk)⟩
end Go.Proofs.YtnccknhbplaieaaGreatDoor
