/- Parts. -/
import Derived.Test.YtppghgnhlgoagaaGreatDoorG28
import Derived.Test.YtppghgnhlgoagaaGreatDoorG24
import Derived.Test.YtppghgnhlgoagaaGreatDoorG22
import Derived.RangeFuncNested
import Derived.RangeFuncBound
import Derived.RangeFuncCalls
import Derived.RangeFuncLeaves
import Derived.Shelf.Abstract
import Derived.Shelf.RegionOpen
import Derived.OwnWalkIn
import Derived.TacticsInMore
import Derived.LoopNIn
import Derived.LoopIn
import Derived.RangeFuncBox
import Derived.Maps.AppendAt
set_option linter.all false
set_option maxRecDepth 100000
set_option maxHeartbeats 4000000
namespace Go.Proofs.YtppghgnhlgoagaaGreatDoor
open Go Go.RowKit
def SeqC {α:Type} (F:Fence) (n:Nat) (P:Program) (g:Nat) (lb:Array Value) (encs:α->Array Value) (Kp:World->World->Prop) (S:List α->Prop) (bS N:Nat) (w:World):Prop :=
 ∀ (l:Nat) (J:List α->World->Prop) (W:World),Below w.heap.size w W->(∀ s W W' row,J s W->W.grownBy W' row->(∀ r,row=some r->r=bS)->J s W') ->
   (∀ pre x W1,J pre W1->pre.length<N->YieldAt F (n-1) P l (encs x) W1 fun e W'=>e=.returned (.bool true)/\J (pre++[x]) W'/\Kp W1 W') ->
   J [] W ->
   CallsIn F n P g (#[.func (.yield l) #[] #[]]++lb) W fun e W'=>(∃ v,e=.returned v)/\∃ xs,S xs/\J xs W'
def goesOn {α:Type} (Kp:World->World->Prop) (I:List α->World->Prop) (xs:List α) (W:World):Exit->Act->World->Prop
 | .normal,_,W'=>KeepsOthers W W'/\Kp W W'/\I xs W'
 | _,_,_=>False
variable {F:Fence} {n:Nat} {P:Program}
theorem range_own {α:Type} {g:Operand} {ps:Array Tmp} {assign body:Code} {Q:Exit->Act->World->Prop} {a:Act} {w:World} {bS N:Nat}
  (hro:F.round=none) (h1:1<=n) {gf:Nat} {lb:Array Value} (hg:a.eval g=.func (.func gf) #[] lb) (hFg:F.fn gf) (eg:∀ args w,(callFunc gf args).run P w=.ok (.enter gf args) w)
  {encs:α->Array Value} {Kp:World->World->Prop} {S:List α->Prop} (hseq:SeqC F (n-1) P gf lb encs Kp S bS N w) (hbS:bS<w.heap.size)
  (hKt:∀ {A B C:World},Kp A B->Kp B C->Kp A C) (hKb:∀ (W:World) (l:Nat) (o':Obj),w.heap.size<=l->Kp W (W.putObj l o')) (hps:∀ x,(encs x).size=ps.size)
  (I:List α->World->Prop) (hI:∀ s W W' row,I s W->W.grownBy W' row->(∀ r,row=some r->r=bS∨(w.heap.size<=r/\∃ o:Obj,W.heap[r]? =some o/\o.isCells=false))->I s W') (h0:I [] w) (a₁:α->Act)
  (hassign:∀ (l:Nat) (x:α) (W:World) (K:Act->World->Prop),K (a₁ x) W ->
   assign.wpIn (F.inRound l) (n-1-1) P (Exit.then K (fun _ _ _=>False)) { tmps:=(ps.zip (encs x)).foldl (fun t (p,v)=>t.setIfInBounds p v) a.tmps,defers:=[] } W)
  (hbody:∀ (l:Nat) (pre:List α) (x:α) (W:World),I pre W->pre.length<N->body.wpIn (F.inRound l) (n-1-1) P (goesOn Kp I (pre++[x]) W) (a₁ x) W)
  (hdone:∀ (D:Nat) (xs:List α) (W:World),w.heap.size<=D->S xs->I xs W->W.heap[D]? =some (.deferred (some []))->Q .normal { a with defers:= { target:=.collected D,args:=#[] } ::a.defers } W) :
  (Code.rangeFunc g ps assign body).wpIn F n P Q a w:=by
 refine wpIn_rangeFunc ?_
 intro fn hfn
 rw[hro]
 obtain⟨rec,hrec⟩:∃ rec:LoopState->Option Code->Loop,rec=fun st pe=> { state:=st,pending:=pe,fn,tmps:=a.tmps,params:=ps,assign,body,defers:=w.heap.size } :=⟨_,rfl⟩
 obtain⟨W1,hW1⟩:∃ W1,(w.alloc (.deferred (some []))).alloc (.loop (rec .ready none))=W1:=⟨_,rfl⟩
 have hput:∀ {s:List α} {W:World} {l:Nat} {o:Obj} (o':Obj),I s W->w.heap.size<=l->W.heap[l]? =some o->o.isCells=false->I s (W.putObj l o'):=fun {s W l o} o' hs hB hl ho =>
  hI s W _ (some l) hs (grownBy_putObj' W l o') (fun r e=>by cases e;exact .inr ⟨hB,o,hl,ho⟩)
 have hal:∀ {s:List α} {W:World} (o:Obj),I s W->I s (W.alloc o):=fun {s W} o hs=>hI s W _ none hs (World.grownBy_alloc W o none) (fun r e=>by cases e)
 have hL1:W1.heap[w.heap.size+1]? =some (.loop (rec .ready none)):=by
  rw[<- hW1];have:=World.alloc_heap_new (w.alloc (.deferred (some []))) (.loop (rec .ready none));rwa[World.size_alloc] at this
 have hK1:W1.heap[w.heap.size]? =some (.deferred (some [])):=by
  rw[<- hW1];exact(Below.heap_alloc _ _ _ (by simp)).trans (World.alloc_heap_new w _)
 have hI1:I [] W1:=by rw[<- hW1];exact hal _ (hal _ h0)
 have hb1:Below w.heap.size w W1:=by
  rw[<- hW1];exact((Below.refl _ w).alloc (Nat.le_refl _) _).alloc (by simp) _
 refine⟨w.heap.size+1,[{ target:=.collected w.heap.size,args:=#[] }],W1,{ target:=.fn (.func gf) lb,args:=#[.func (.yield (w.heap.size+1)) #[] #[]] },W1,gf,
  #[.func (.yield (w.heap.size+1)) #[] #[]]++lb,W1,?_,?_,?_,?_,fun _=>h1,?_⟩
 ·rw[<- hW1,hrec];exact run_enterLoop_outer _ _ _ _ _
 ·simp only[resolve,hg]
  simp[go_sem]
 ·intro f' hf';simp[Target.leads] at hf';subst hf';exact hFg
 ·simp[invoke,go_sem,eg]
 ·have hkeep:∀ {A B:World} {row:Option Nat} {l:Nat} {o:Obj},w.heap.size<=l->A.grownBy B row->(∀ r,row=some r->r=bS)->A.heap[l]? =some o->B.heap[l]? =some o:=fun {A B row l o} hl hg' hr ho =>
   (hg'.block l (Array.getElem?_eq_some_iff.1 ho).1 (fun e=>by have:=hr l e.symm;omega)).trans ho
  refine(hseq (w.heap.size+1)
   (fun pre W=>I pre W/\W.heap[w.heap.size+1]? =some (.loop (rec .ready none))/\W.heap[w.heap.size]? =some (.deferred (some [])))
   W1 hb1
   (fun s A B row hs hg' hr=>⟨hI s A B row hs.1 hg' (fun r e=>.inl (hr r e)),hkeep (by omega) hg' hr hs.2.1,hkeep (Nat.le_refl _) hg' hr hs.2.2⟩)
   ?_ ⟨hI1,hL1,hK1⟩).mono ?_
  ·rintro pre x W ⟨hi,hl,hk⟩ hlen
   have hlt:w.heap.size+1<W.heap.size:=(Array.getElem?_eq_some_iff.1 hl).1
   have hy:=run_yield (P:=P) (args:=encs x) hl (by rw[hrec];exact hps x)
   rw[hrec] at hy
   refine⟨fn,_,assign,body,hy,roundIn_of_wpIn hfn (hassign _ x W _ ⟨_,run_beginRound hl (by rw[hrec]),?_⟩)⟩
   have hl2:(W.putObj (w.heap.size+1) (.loop { rec .ready none with state:=.busy })).heap[w.heap.size+1]? =some (.loop { rec .ready none with state:=.busy }):=World.putObj_heap_same hlt
   have hk2:(W.putObj (w.heap.size+1) (.loop { rec .ready none with state:=.busy })).heap[w.heap.size]? =some (.deferred (some [])):=(World.putObj_heap_other (by omega)).trans hk
   have hw2:Kp W (W.putObj (w.heap.size+1) (.loop { rec .ready none with state:=.busy })):=hKb _ _ _ (by omega)
   refine wpIn_mono (hbody _ pre x _ (hput _ hi (by omega) hl rfl) hlen) ?_
   rintro e a3 W3 hp
   cases e with
   | normal =>
     obtain⟨hk3,hkp3,hi3⟩:=hp
     have hl3:=hk3.same _ _ hl2 rfl
     have hr:=run_endRound (P:=P) none hl3
     rw[hrec] at hr hl3
     refine⟨_,_,hr,rfl,⟨hput _ hi3 (by omega) hl3 rfl,?_,?_⟩,hKt (hKt hw2 hkp3) (hKb _ _ _ (by omega))⟩
     ·rw[hrec]
      exact World.putObj_heap_same (Array.getElem?_eq_some_iff.1 hl3).1
     ·exact(World.putObj_heap_other (by omega)).trans (hk3.same _ _ hk2 rfl)
   | ret=>exact hp.elim
   | exit id=>exact hp.elim
   | goto t=>exact hp.elim
   | panic ch=>exact hp.elim
   | outgrown=>exact hp.elim
  ·rintro e W2 ⟨⟨v,rfl⟩,xs,hS,hi,hl,hk⟩
   exact⟨none,_,by have:=run_endLoop (P:=P) hl (by rw[hrec];simp);rw[hrec] at this;exact this,hdone _ xs _ (Nat.le_refl _) hS (hput _ hi (by omega) hl rfl) ((World.putObj_heap_other (by omega)).trans hk)⟩
end Go.Proofs.YtppghgnhlgoagaaGreatDoor
namespace Go.Proofs.YtppghgnhlgoagaaGreatDoor
open Go Go.RowKit Go.Shelf
open Go.Lib renaming hid->zh
attribute [local go_sem] Oper.semAt_some
def splitGo:Nat->List UInt8->List (List UInt8)
 | 0,l=>[l]
 | f+1,l=>if Lib.index l [32]<0 then [l] else l.take (Lib.index l [32]).toNat::splitGo f (l.drop ((Lib.index l [32]).toNat+1))
def splitX (l:List UInt8):List ByteArray:=(splitGo (l.length+1) l).map fun x=>⟨x.toArray⟩
def KeptBut (b n2:Nat) (A B:World):Prop:=A.heap.size<=B.heap.size/\∀ k,k≠b->k<n2->B.heap[k]? =A.heap[k]?
theorem KeptBut.cell {b n2 k i:Nat} {A B:World} {v:Value} (h:KeptBut b n2 A B) (hk:k≠b) (h2:k<n2) (hv:A.cell? ⟨k,i,none⟩=some v):B.cell? ⟨k,i,none⟩=some v :=
 (World.cell?_of_block (a:=⟨k,i,none⟩) (h.2 k hk h2)).trans hv
theorem KeptBut.frozen {b n2 k i:Nat} {A B:World} (h:KeptBut b n2 A B) (hk:k≠b) (h2:k<n2):B.frozen? ⟨k,i,none⟩=A.frozen? ⟨k,i,none⟩ :=
 World.frozen?_of_block (a:=⟨k,i,none⟩) (h.2 k hk h2)
def leftAt (b:Nat) (w:World):Nat:=match w.cell? ⟨b,0,none⟩ with
 | some (.string s)=>s.size
 | _=>0
theorem extract_take (l:List UInt8) (i:Nat):(⟨l.toArray⟩:ByteArray).extract 0 i=⟨(l.take i).toArray⟩:=by
 apply ByteArray.ext
 simp[ByteArray.data_extract]
theorem extract_drop (l:List UInt8) (i:Nat):(⟨l.toArray⟩:ByteArray).extract i l.length=⟨(l.drop i).toArray⟩:=by
 apply ByteArray.ext
 simp only[ByteArray.data_extract,List.extract_toArray,List.extract_eq_take_drop]
 rw[List.take_of_length_le (by rw[List.length_drop];omega)]
theorem addr_ne {a b:Nat} (h:a≠b):(⟨a,0,none⟩:Addr)≠⟨b,0,none⟩:=fun e=>h (by injection e)
theorem split_seq (n:Nat) (h1n:1<=n) (bSep bS bSave bW n2:Nat) (hne:bSep≠bS/\bSave≠bS/\bSep≠bW/\bS≠bW/\bSave≠bW) (hn:bSep<n2/\bS<n2/\bSave<n2) (hbW:2<bW) (hn2:2<n2) (hbS2:2<bS) (ls:List UInt8) (hls:ls.length<=1048576) (w:World) (hnw:n2<=w.heap.size) (hM:MaxL w)
  (hsep:w.cell? ⟨bSep,0,none⟩=some (.string ⟨#[32]⟩)) (hs:w.cell? ⟨bS,0,none⟩=some (.string ⟨ls.toArray⟩)) (hfz:w.frozen? ⟨bS,0,none⟩=false) (hsave:w.cell? ⟨bSave,0,none⟩=some (.int .i64 0)) :
  SeqC Fence.wide n Tryz.prog 307 #[.pointer (some ⟨bSep,0,none⟩),.pointer (some ⟨bS,0,none⟩),.pointer (some ⟨bSave,0,none⟩)] (fun x:ByteArray=>#[.string x]) (KeptBut bW n2) (fun xs=>xs=splitX ls) bS (splitX ls).length w:=by
 intro l J W hW hJ hY h0
 have c1:=(hW.cell (p:=⟨bSep,0,none⟩) (show bSep<w.heap.size by omega)).trans hsep
 have c2:=(hW.cell (p:=⟨bS,0,none⟩) (show bS<w.heap.size by omega)).trans hs
 have c3:=(hW.cell (p:=⟨bSave,0,none⟩) (show bSave<w.heap.size by omega)).trans hsave
 have f2:W.frozen? ⟨bS,0,none⟩=false:=(World.frozen?_of_block (a:=⟨bS,0,none⟩) (hW.block bS (by omega))).trans hfz
 have hM1:=hM.below hW
 have hWs:=hW.size
 refine callsIn_of_wp Tryz.func307 rfl trivial ?_ rfl
 simp only[Tryz.ntmps307,List.size_toArray,List.length_cons,List.length_nil,Nat.reduceAdd,Nat.reduceSub,Array.replicate_succ,Array.replicate_zero,List.push_toArray,List.append_toArray,List.nil_append,List.cons_append]
 gi_wp2
 gi_loopw [7] (fun _ wr=>∃ (f:Nat) (pre:List ByteArray) (rest:List UInt8),splitX ls=pre++(splitGo f rest).map (fun x=>⟨x.toArray⟩)/\rest.length<f/\rest.length<=1048576/\J pre wr/\W.heap.size<=wr.heap.size/\MaxL wr/\wr.cell? ⟨bSep,0,none⟩=some (.string ⟨#[32]⟩)/\wr.cell? ⟨bS,0,none⟩=some (.string ⟨rest.toArray⟩)/\wr.frozen? ⟨bS,0,none⟩=false/\wr.cell? ⟨bSave,0,none⟩=some (.int .i64 0)) (fun _ wr=>leftAt bS wr)
 case atStart=>exact⟨ls.length+1,[],ls,rfl,Nat.lt_succ_self _,hls,h0,Nat.le_refl _,hM1,c1,c2,f2,c3⟩
 case round =>
  obtain⟨f,pre,rest,hx,hf,hr,hJs,hws,hm,d1,d2,e2,d3⟩:=hrel
  obtain⟨f,rfl⟩:∃ k,f=k+1:=⟨f-1,by omega⟩
  clear c1 c2 c3 f2
  have HM:=zh hm
  have HIX:=zh (fun w h=>index_any ⟨rest.toArray⟩ ⟨#[32]⟩ w h (by show rest.length<_;omega))
  rw[splitGo] at hx
  obtain⟨z,hz⟩:∃ z,Lib.index rest [32]=z:=⟨_,rfl⟩
  have hz2:Lib.index (⟨rest.toArray⟩:ByteArray).data.toList (⟨#[32]⟩:ByteArray).data.toList=z:=hz
  rw[hz2] at HIX
  rw[hz] at hx
  have hzl:0<=z->z+1<=rest.length:=fun h=>by have:=Lib.index_room rest [32] (by rw[hz];exact h);rw[hz] at this;simpa using this
  clear hz hz2 hm
  by_cases hneg:z<0
  ·rw[if_pos hneg] at hx
   obtain⟨fn,tmps,assign,body,hy,hR⟩:=hY pre ⟨rest.toArray⟩ wr hJs (by have:=congrArg List.length hx;simp at this;omega)
   gi_wp2_with (refine⟨trivial,?_⟩;gi_at_call 254;refine(callsIn_wide.2 (HIX.out _ HM.out)).mono ?_;rintro e w1 ⟨rfl,rfl⟩)
   refine hR.mono ?_
   rintro e W2 ⟨rfl,hJ2,hk2⟩
   gi_wp2
   go_end0
   exact⟨⟨_,rfl⟩,splitX ls,rfl,by rw[hx];exact hJ2⟩
  ·rw[if_neg hneg] at hx
   obtain⟨i,rfl⟩:∃ i:Nat,z=(i:Int):=⟨z.toNat,by omega⟩
   have hil:=hzl (by omega)
   have hw1:IntKind.i64.wrap (i:Int)=(i:Int):=by rw[IntKind.wrap_i64];omega
   have hw2:IntKind.i64.wrap ((i:Int)+1)=(i:Int)+1:=by rw[IntKind.wrap_i64];omega
   have hi0:(0:Int)<=(i:Int):=by omega
   have hi1:(i:Int)<=(rest.length:Int):=by omega
   have hi2:(i:Int)+1<=(rest.length:Int):=by omega
   have hi3:(0:Int)<=(i:Int)+1:=by omega
   rw[Int.toNat_natCast] at hx
   have hsz:(⟨rest.toArray⟩:ByteArray).size=rest.length:=rfl
   obtain⟨fn,tmps,assign,body,hy,hR⟩:=hY pre ((⟨rest.toArray⟩:ByteArray).extract 0 i) wr hJs (by have:=congrArg List.length hx;simp at this;omega)
   gi_wp2_with (refine⟨trivial,?_⟩;gi_at_call 254;refine(callsIn_wide.2 (HIX.out _ HM.out)).mono ?_;rintro e w1 ⟨rfl,rfl⟩)
   refine hR.mono ?_
   rintro e W2 ⟨rfl,hJ2,hk2⟩
   have g1:=hk2.cell (by omega) (by omega) d1
   have g2:=hk2.cell (by omega) (by omega) d2
   have g3:=hk2.cell (by omega) (by omega) d3
   have e3:=(hk2.frozen (i:=0) (show bS≠bW by omega) (by omega)).trans e2
   gi_wp2
   go_roundw
   case rel =>
    have hc2:W2.cell? ⟨2,0,none⟩=w1.cell? ⟨2,0,none⟩:=World.cell?_of_block (a:=⟨2,0,none⟩) (hk2.2 2 (by omega) (by omega))
    obtain⟨mm,hmm⟩:=HM.out
    refine⟨f,pre++[(⟨rest.toArray⟩:ByteArray).extract 0 i],rest.drop (i+1),?_,by rw[List.length_drop];omega,by rw[List.length_drop];omega,hJ _ W2 _ (some bS) hJ2 (grownBy_setCell' W2 bS _) (fun r e=>by cases e;rfl),?_,⟨mm,?_⟩,?_,?_,?_,?_⟩
    ·rw[hx,extract_take]
     simp
    ·have:=hk2.1
     rw[World.size_setCell]
     omega
    ·rw[World.cell?_setCell_other (h:=addr_ne (show bS≠2 by omega))]
     exact hc2.trans hmm
    ·rw[World.cell?_setCell_other (h:=addr_ne (show bS≠bSep by omega))]
     exact g1
    ·rw[extract_drop]
     exact World.cell?_setCell_same' _ _ _ (by rw[g2];rfl)
    ·rw[World.frozen?_setCell]
     exact e3
    ·rw[World.cell?_setCell_other (h:=addr_ne (show bS≠bSave by omega))]
     exact g3
   case measure =>
    have q1:leftAt bS w1=rest.length:=by unfold leftAt;rw[d2];rfl
    have q2:leftAt bS (W2.setCell ⟨bS,0,none⟩ (.string ((⟨rest.toArray⟩:ByteArray).extract (i+1) rest.length)))=(rest.drop (i+1)).length:=by
     unfold leftAt
     rw[World.cell?_setCell_same' _ _ _ (by rw[g2];rfl),extract_drop]
     rfl
    rw[q1,q2,List.length_drop]
    omega
attribute [local go_sem] Oper.semAt_some
theorem splitGo_len:∀ (f:Nat) (l:List UInt8),(splitGo f l).length<=f+1
 | 0,l=>by simp[splitGo]
 | f+1,l=>by
   rw[splitGo]
   split
   ·simp
   ·have:=splitGo_len f (l.drop ((Lib.index l [32]).toNat+1))
    simp only[List.length_cons]
    omega
theorem splitGo_le:∀ (f:Nat) (l x:List UInt8),x∈splitGo f l->x.length<=l.length
 | 0,l,x,h=>by
   simp only[splitGo,List.mem_singleton] at h
   rw[h]
   exact Nat.le_refl _
 | f+1,l,x,h=>by
   rw[splitGo] at h
   split at h
   ·simp only[List.mem_singleton] at h
    rw[h]
    exact Nat.le_refl _
   ·rcases List.mem_cons.1 h with rfl|h
    ·rw[List.length_take]
     omega
    ·have:=splitGo_le f _ x h
     rw[List.length_drop] at this
     omega
theorem join_le (sep:List UInt8) (m:Nat):∀ xs:List (List UInt8),(∀ x∈xs,x.length<=m)->(Lib.join xs sep).length<=xs.length*(m+sep.length)
 | [],_=>by simp[Lib.join_nil]
 | [x],h=>by
   rw[Lib.join_one]
   have:=h x List.mem_cons_self
   simp
   omega
 | x::y::r,h=>by
   have h1:=h x List.mem_cons_self
   have h2:=join_le sep m (y::r) (fun z hz=>h z (List.mem_cons_of_mem _ hz))
   have e:Lib.join (x::y::r) sep=x++sep++Lib.join (y::r) sep:=by simp[Lib.join,List.intercalate]
   rw[e,List.length_append,List.length_append]
   simp only[List.length_cons] at h2 ⊢
   have e2:(r.length+1+1)*(m+sep.length)=(r.length+1)*(m+sep.length)+(m+sep.length):=by rw[Nat.succ_mul]
   omega
def wordsOf (xs:List ByteArray):List ByteArray:=xs.filter fun x=> !x.toList.isEmpty
def trimX (s:ByteArray):ByteArray:=⟨(Lib.join ((wordsOf (splitX s.data.toList)).map (·.data.toList)) [32]).toArray⟩
theorem words_hit (pre:List ByteArray) {x:ByteArray} (h:x.toList.isEmpty=false):wordsOf (pre++[x])=wordsOf pre++[x]:=by simp[wordsOf,h]
theorem words_miss (pre:List ByteArray) {x:ByteArray} (h:x.toList.isEmpty=true):wordsOf (pre++[x])=wordsOf pre:=by simp[wordsOf,h]
theorem infoStr:(Tryz.prog.info? 9).map (fun i=>(i.zero,i.size,i.bytes))=some (some (.string ⟨#[]⟩),1,16):=by kernel_rfl
theorem split_new (s:ByteArray) (w:World):Calls Tryz.prog 292 #[.string s,.string ⟨#[32]⟩,.int .i64 0] w fun e w'=>e=.returned (.func (.func 307) #[] #[.pointer (some ⟨w.heap.size+1,0,none⟩),.pointer (some ⟨w.heap.size,0,none⟩),.pointer (some ⟨w.heap.size+2,0,none⟩)]) /\
  w'=((w.alloc (.cells #[.string s] 9)).alloc (.cells #[.string ⟨#[32]⟩] 9)).alloc (.cells #[.int .i64 0] 3):=by
 go_enter Tryz.func292,Tryz.ntmps292
 go_wp2
 all_goals go_returns
 all_goals exact⟨rfl,rfl⟩
theorem split_call (s:ByteArray) (w:World):Calls Tryz.prog 252 #[.string s,.string ⟨#[32]⟩] w fun e w'=>e=.returned (.func (.func 307) #[] #[.pointer (some ⟨w.heap.size+1,0,none⟩),.pointer (some ⟨w.heap.size,0,none⟩),.pointer (some ⟨w.heap.size+2,0,none⟩)]) /\
  w'=((w.alloc (.cells #[.string s] 9)).alloc (.cells #[.string ⟨#[32]⟩] 9)).alloc (.cells #[.int .i64 0] 3):=by
 go_enter Tryz.func252,Tryz.ntmps252
 go_wp2_with(go_at_call 292;refine(split_new s _).mono ?_;rintro e w1 ⟨rfl,rfl⟩)
 all_goals go_returns
 all_goals exact⟨rfl,rfl⟩
theorem join_words (ws:List ByteArray) (v:Value) (base:Nat) (w:World) (h:w.ownsRow base 9 1 v ws.length (ws.map Value.string)) (hl:ws.length<=1048600) (hx:∀ x∈ws,x.size<=1048576) :
  Rt 253 #[v,.string ⟨#[32]⟩] w (.string ⟨(Lib.join (ws.map (·.data.toList)) [32]).toArray⟩):=by
 have hlen:(Lib.join (ws.map (·.data.toList)) [32]).length<=140737488355328:=by
  have h1:=join_le [32] 1048576 (ws.map (·.data.toList)) (fun y hy=>by
   obtain⟨x,hm,rfl⟩:=List.mem_map.1 hy
   have:=hx x hm
   show x.data.toList.length<=_
   rw[Array.length_toList]
   exact this)
  rw[List.length_map] at h1
  simp only[List.length_cons,List.length_nil] at h1
  have h2:ws.length*(1048576+(0+1))<=1048600*(1048576+(0+1)):=Nat.mul_le_mul_right _ hl
  omega
 rcases h.2 with ⟨rfl,h0⟩|⟨g,cap,cur,rfl,hb,hg,hnc,_,_,_⟩
 ·obtain rfl:ws=[]:=List.length_eq_zero_iff.1 h0
  refine(Tryz.strings_Join_none none 0 ⟨#[32]⟩ w).mono ?_
  rintro e w' ⟨rfl,rfl⟩
  exact⟨rfl,Below.refl _ _⟩
 ·have hlt:g<w.heap.size:=(Array.getElem?_eq_some_iff.1 hg).1
  exact Tryz.strings_Join g 0 cap ws ⟨#[32]⟩ w (fun j x hj=>by
   have:=h.cells (g:=g) rfl j (.string x) (by simp[hj])
   have e:(⟨g,0,none⟩:Addr).add j=⟨g,0+j,none⟩:=by unfold Addr.add;split<;>simp_all
   rw[e] at this
   exact this) hlt (by omega) hnc hlen
theorem box_appended {W w1:World} {n₀ b0 B:Nat} {t e:TypeId} {size:Nat} {v v':Value} {k m:Nat} {xs ys:List Value} {tmp:Obj}
  (hv:Boxed W B t v) (hte:t≠e) (hrow:W.ownsRow n₀ e size v k xs) (hn₀:n₀<=W.heap.size) (hB:b0<=B) (hb0:b0<=n₀)
  (hown':w1.ownsRow n₀ e size v' m ys) (hgrow:(W.alloc tmp).grownBy w1 v.ownBlock) :
  Boxed w1 B t v/\Boxed (w1.setCell ⟨B,0,none⟩ v') B t v'/\(w1.setCell ⟨B,0,none⟩ v').ownsRow n₀ e size v' m ys/\KeepsOthers W (w1.setCell ⟨B,0,none⟩ v')/\Below b0 W (w1.setCell ⟨B,0,none⟩ v')/\KeptBut B n₀ W (w1.setCell ⟨B,0,none⟩ v'):=by
 have hv1:Boxed w1 B t v:=(hv.alloc tmp).kept hgrow (hv.not_row hte hrow)
 have hge:∀ j,v.ownBlock=some j->n₀<=j:=fun j ej=>by
  rcases hrow.2 with ⟨rfl,_⟩|⟨g,cap,cur,rfl,hb,_,_⟩
  ·simp[Value.ownBlock] at ej
  ·obtain rfl:g=j:=by simpa [Value.ownBlock] using ej
   exact hb
 refine⟨hv1,hv1.set v',hown'.kept (grownBy_setCell' w1 B v') (.inr (hv1.not_row hte hown').symm),?_,?_,?_,?_⟩
 ·refine((KeepsOthers.alloc W tmp).trans (KeepsOthers.of_grownBy hgrow fun j o ej hj=> ?_)).trans (KeepsOthers.setCell _ _ _)
  rcases(hrow.alloc tmp).2 with ⟨rfl,_⟩|⟨g,cap,cur,rfl,_,hgb,_⟩
  ·simp[Value.ownBlock] at ej
  ·obtain rfl:g=j:=by simpa [Value.ownBlock] using ej
   rw[hgb] at hj;cases hj;rfl
 ·exact(((Below.refl b0 W).alloc (by omega) tmp).grown hgrow (by simp;omega) fun j ej=>Nat.le_trans hb0 (hge j ej)).setCell (p:=⟨B,0,none⟩) hB v'
 ·have h1:=hgrow.size
  simp only[World.size_alloc,World.size_setCell] at h1 ⊢
  omega
 ·intro j hj hjn
  have h1:(W.alloc tmp).heap[j]? =W.heap[j]? :=Lib.alloc_old W tmp j (by omega)
  have h2:w1.heap[j]? =(W.alloc tmp).heap[j]? :=hgrow.block j (by simp;omega) (fun e=>by have:=hge j e.symm;omega)
  have h3:(w1.setCell ⟨B,0,none⟩ v').heap[j]? =w1.heap[j]? :=(grownBy_setCell' w1 B v').block j (by have:=hgrow.size;simp at this;omega) (fun e=>hj (by cases e;rfl))
  exact h3.trans (h2.trans h1)
theorem texts_trim (s:ByteArray) (hs:s.size<=1048576) (w:World) (hM:MaxL w):Rt 189 #[.string s] w (.string (trimX s)):=by
 obtain⟨i0,hi,hz0,hz1,hz2⟩:=info_parts infoStr
 have h2:2<w.heap.size:=by obtain⟨m,hm⟩:=hM;exact World.block_lt_of_cell? w _ hm
 have hpl:(splitX s.data.toList).length<=1048578:=by
  have:=splitGo_len (s.data.toList.length+1) s.data.toList
  rw[splitX,List.length_map]
  rw[show s.data.toList.length=s.size by rw[Array.length_toList];rfl] at this ⊢
  omega
 refine(callsIn_wide (n:=4)).1 ?_
 refine callsIn_of_wp_marks Tryz.func189 rfl trivial ?_ rfl
 simp only[Tryz.ntmps189,List.size_toArray,List.length_cons,List.length_nil,Nat.reduceAdd,Nat.reduceSub,Array.replicate_succ,Array.replicate_zero,List.push_toArray,List.append_toArray,List.nil_append,List.cons_append]
 gi_wp2_with (refine⟨trivial,?_⟩;gi_at_call 252;refine(callsIn_wide.2 (split_call s _)).mono ?_;rintro e w' ⟨rfl,rfl⟩)
 obtain⟨W0,hW0⟩:∃ W0,(((w.alloc (.cells #[.slice none 0 0] 175)).alloc (.cells #[.string s] 9)).alloc (.cells #[.string ⟨#[32]⟩] 9)).alloc (.cells #[.int .i64 0] 3)=W0:=⟨_,rfl⟩
 have hsz:W0.heap.size=w.heap.size+4:=by rw[<- hW0];simp
 have hB0:Below w.heap.size w W0:=by rw[<- hW0];exact bel
 have bW:Boxed W0 w.heap.size 175 (.slice none 0 0):=by rw[<- hW0];exact(((Boxed.new w _ _).alloc _).alloc _).alloc _
 have b1:=Boxed.new (w.alloc (.cells #[.slice none 0 0] 175)) 9 (.string s)
 have b2:=Boxed.new ((w.alloc (.cells #[.slice none 0 0] 175)).alloc (.cells #[.string s] 9)) 9 (.string ⟨#[32]⟩)
 have b3:=Boxed.new (((w.alloc (.cells #[.slice none 0 0] 175)).alloc (.cells #[.string s] 9)).alloc (.cells #[.string ⟨#[32]⟩] 9)) 3 (.int .i64 0)
 simp only[World.size_alloc] at b1 b2 b3
 have b1:=(b1.alloc (.cells #[.string ⟨#[32]⟩] 9)).alloc (.cells #[.int .i64 0] 3)
 have b2:=b2.alloc (.cells #[.int .i64 0] 3)
 rw[hW0] at b1 b2 b3
 have k1:=b1.cell
 have k2:=b2.cell
 have k3:=b3.cell
 have kf:=b1.frozen
 rw[<- mk_data s] at k1
 have hM0:=hM.below hB0
 have hseq:=split_seq 3 (by decide) (w.heap.size+2) (w.heap.size+1) (w.heap.size+3) w.heap.size (w.heap.size+4) (by omega) (by omega) h2 (by omega) (by omega) s.data.toList (by rw[Array.length_toList];exact hs) W0 (by omega) hM0 k2 k1 kf k3
 have hpx:∀ x∈splitX s.data.toList,x.size<=1048576:=by
  intro x hx
  obtain⟨y,hy,rfl⟩:=List.mem_map.1 hx
  have:=splitGo_le _ _ y hy
  rw[Array.length_toList] at this
  exact Nat.le_trans this hs
 rw[hW0]
 refine range_own rfl (by decide) (gf:=307) (lb:=#[.pointer (some ⟨w.heap.size+2,0,none⟩),.pointer (some ⟨w.heap.size+1,0,none⟩),.pointer (some ⟨w.heap.size+3,0,none⟩)]) rfl trivial (enters_of Tryz.func307 (by kernel_rfl) rfl) hseq (by omega) ?kt ?kb (fun _=>rfl)
  (fun pre W=>(∃ v,Boxed W w.heap.size 175 v/\W.ownsRow W0.heap.size 9 1 v (wordsOf pre).length ((wordsOf pre).map Value.string))/\Below w.heap.size w W/\W0.heap.size<=W.heap.size) ?own ?start
  (fun x=> { tmps:=#[.string s,undef,.string ⟨#[]⟩,.pointer (some ⟨w.heap.size,0,none⟩),.string x,.string s,.func (.func 307) #[] #[.pointer (some ⟨w.heap.size+2,0,none⟩),.pointer (some ⟨w.heap.size+1,0,none⟩),.pointer (some ⟨w.heap.size+3,0,none⟩)],.string x,undef,undef,undef,undef,undef,undef,undef,undef],defers:=[] }) ?assign ?body ?done
 case kt=>exact fun h k=>⟨Nat.le_trans h.1 k.1,fun j hj h2=>(k.2 j hj h2).trans (h.2 j hj h2)⟩
 case kb=>exact fun W l o' hl=>⟨by simp[World.putObj],fun j _ h2=>World.putObj_heap_other (by omega)⟩
 case own =>
  rintro pre A B row ⟨⟨v,hv,hr⟩,hb,hsz2⟩ hg hrow
  refine⟨⟨v,hv.kept hg (fun e=> ?_),hr.kept hg ?_⟩,hb.grown hg (by have:=hb.size;omega) (fun k e=> ?_),by have:=hg.size;omega⟩
  ·rcases hrow _ e.symm with h|h
   ·omega
   ·omega
  ·rcases hr.2 with ⟨rfl,_⟩|⟨g,cap,cur,rfl,hge,hgb,_⟩
   ·exact .inl rfl
   ·refine .inr fun e'=> ?_
    rcases hrow g e'.symm with h|⟨_,o,ho,hc⟩
    ·omega
    ·rw[hgb] at ho
     cases ho
     cases hc
  ·rcases hrow _ e with h|h
   ·omega
   ·omega
 case start=>exact⟨⟨_,bW,World.ownsRow_nil _ _ _ _⟩,hB0,Nat.le_refl _⟩
 case assign =>
  intro l x W K hK
  gi_wp2
  exact hK
 case body =>
  rintro l pre x W ⟨⟨v,hv,hrow⟩,hB,hsz2⟩ hlt
  have hc:=hv.cell
  have hwl:(wordsOf pre).length<=pre.length:=List.length_filter_le _ _
  have hml:maxLen=9223372036854775807:=by decide
  cases hx:x.toList.isEmpty with
  | false =>
    gi_wp2_with (gi_at_builtin;refine wpListIn_append_own _ rfl _ _ 175 rfl W0.heap.size 9 i0 (.string ⟨#[]⟩) 1 16 Tryz.underlying175 hi hz0 hz1 hz2 rfl (by decide) _ _ _ rfl (hrow.alloc _) ⟨W.heap.size,0,none⟩ 1 1 [.string x] rfl rfl (cell_one_new _ _ _) (by simp[Value.oneCell']) (by omega) (by omega) (by simp;omega) ?_;intro v' w1 hown' hgrow _;obtain⟨g',cap',rfl⟩:=ownsRow_succ hown';obtain⟨hv1,hv2,hr2,hk2,hb2,hkb⟩:=box_appended (b0:=w.heap.size) hv (by decide) hrow hsz2 (Nat.le_refl _) (by omega) hown' hgrow;have hc1:=hv1.cell;have hf1:=hv1.frozen)
    exact⟨hk2,⟨hkb.1,fun j hj h3=>hkb.2 j hj (by omega)⟩,⟨_,hv2,by rw[words_hit pre hx];simpa using hr2⟩,hB.trans hb2,by have:=hkb.1;omega⟩
  | true =>
    gi_wp2
    exact⟨KeepsOthers.refl _,⟨Nat.le_refl _,fun _ _ _=>rfl⟩,⟨v,hv,by rw[words_miss pre hx];exact hrow⟩,hB,hsz2⟩
 case done =>
  rintro D ys W hD rfl ⟨⟨v,hv,hrow⟩,hB,hsz2⟩ hK
  have hc:=hv.cell
  have hwl:(wordsOf (splitX s.data.toList)).length<=1048600:=by
   have:(wordsOf (splitX s.data.toList)).length<=(splitX s.data.toList).length:=List.length_filter_le _ _
   omega
  have hjw:=join_words _ v _ W hrow hwl (fun x hx=>hpx x (List.mem_filter.1 hx).1)
  gi_wp2_with (refine⟨trivial,?_⟩;gi_at_call 253;refine(callsIn_wide.2 hjw).mono ?_;rintro e w1 ⟨rfl,hb⟩)
  have hK1:w1.heap[D]? =some (.deferred (some [])):=(hb.block D (Array.getElem?_eq_some_iff.1 hK).1).trans hK
  refine⟨by simp,.inl ⟨_,_,rfl,run_takeDeferred hK1,?_⟩⟩
  refine⟨_,results_tmp rfl _ _ _,rfl,?_⟩
  exact(hB.trans (hb.mono hB.size)).trans (belowK_b (w:=w) (Nat.le_refl _) w1 D _ _ (by omega) hK1 rfl rfl)
end Go.Proofs.YtppghgnhlgoagaaGreatDoor
namespace Go.Proofs.YtppghgnhlgoagaaGreatDoor
open Go Go.RowKit
def textDo (s:ByteArray) (text:Nat) (ss:List ByteArray) (ns:List Int):V :=
 if (⟨#[78,85,77]⟩:ByteArray)=s then numTX (ss.getD 0 ⟨#[]⟩) else
 if (⟨#[82,69,86]⟩:ByteArray)=s then toldX text (revX (ss.getD 0 ⟨#[]⟩)) else
 if (⟨#[69,88,65,67,84]⟩:ByteArray)=s then exactX (ss.getD 0 ⟨#[]⟩) (ss.getD 1 ⟨#[]⟩) else
 if (⟨#[67,72,65,82]⟩:ByteArray)=s then charX text (ns.getD 0 0) else
 if (⟨#[79,82,68]⟩:ByteArray)=s then ordX (ss.getD 0 ⟨#[]⟩) else
 if (⟨#[67,79,78,67,65,84]⟩:ByteArray)=s then zBA text ss [] else
 if (⟨#[83,85,66,83,84]⟩:ByteArray)=s then substX text (ss.getD 0 ⟨#[]⟩) (ss.getD 1 ⟨#[]⟩) (ss.getD 2 ⟨#[]⟩) else
 if (⟨#[70,73,78,68]⟩:ByteArray)=s then placeX (ss.getD 0 ⟨#[]⟩) (ss.getD 1 ⟨#[]⟩) (ns.getD 0 1) else
 if (⟨#[82,69,80,84]⟩:ByteArray)=s then reptX text (ss.getD 0 ⟨#[]⟩) (ns.getD 0 0) else
 if (⟨#[84,82,73,77]⟩:ByteArray)=s then toldX text (trimX (ss.getD 0 ⟨#[]⟩)) else
 if (⟨#[76,79,87,69,82]⟩:ByteArray)=s then toldX text (eachX 65 97 (ss.getD 0 ⟨#[]⟩)) else
 if (⟨#[85,80,80,69,82]⟩:ByteArray)=s then toldX text (eachX 97 65 (ss.getD 0 ⟨#[]⟩)) else
 if (⟨#[77,73,68]⟩:ByteArray)=s then midX text (ss.getD 0 ⟨#[]⟩) (ns.getD 0 0) (ns.getD 1 0) else
 if (⟨#[82,73,71,72,84]⟩:ByteArray)=s then rightX text (ss.getD 0 ⟨#[]⟩) (ns.getD 0 1) else
 if (⟨#[76,69,70,84]⟩:ByteArray)=s then leftX text (ss.getD 0 ⟨#[]⟩) (ns.getD 0 1) else
 if (⟨#[76,69,78]⟩:ByteArray)=s then wholeT (ss.getD 0 ⟨#[]⟩).size else
 errG 8
def cntK (c:ByteArray) (n:Nat) (isS:Bool):Nat:=((c.data.toList.take n).filter fun b=>(b==115)==isS).length
def StrRow (W:World) (v:Value) (ss:List ByteArray):Prop:=∃ A c,v=.slice A ss.length c/\(0<ss.length->∃ g,A=some ⟨g,0,none⟩/\g<W.heap.size/\∀ j s,ss[j]? =some s->W.cell? ⟨g,j,none⟩=some (.string s))
def IntRow (W:World) (v:Value) (ns:List Int):Prop:=∃ A c,v=.slice A ns.length c/\(0<ns.length->∃ g,A=some ⟨g,0,none⟩/\g<W.heap.size/\∀ j n,ns[j]? =some n->W.cell? ⟨g,j,none⟩=some (.int .i64 n))
theorem StrRow.below {W W':World} {v:Value} {ss:List ByteArray} (h:StrRow W v ss) (hb:Below W.heap.size W W'):StrRow W' v ss:=by
 obtain⟨A,c,rfl,hc⟩:=h
 refine⟨A,c,rfl,fun h0=> ?_⟩
 obtain⟨g,rfl,hg,hx⟩:=hc h0
 exact⟨g,rfl,Nat.lt_of_lt_of_le hg hb.size,fun j s hj=>(hb.cell (p:=⟨g,j,none⟩) hg).trans (hx j s hj)⟩
theorem IntRow.below {W W':World} {v:Value} {ns:List Int} (h:IntRow W v ns) (hb:Below W.heap.size W W'):IntRow W' v ns:=by
 obtain⟨A,c,rfl,hc⟩:=h
 refine⟨A,c,rfl,fun h0=> ?_⟩
 obtain⟨g,rfl,hg,hx⟩:=hc h0
 exact⟨g,rfl,Nat.lt_of_lt_of_le hg hb.size,fun j s hj=>(hb.cell (p:=⟨g,j,none⟩) hg).trans (hx j s hj)⟩
def DoesT (w:World) (fn:Fn) (first cap:Array Value) (text:Nat) (ss:List ByteArray) (ns:List Int) (r:V):Prop :=
 (∃ k,fn=.func k/\first= #[]/\cap= #[]/\(∀ (args:Array Value) (w:World),Sem.run Tryz.prog (callFunc k args) w=.ok (.enter k args) w) /\
  ∀ W sv nv,Below w.heap.size w W->MaxL W->StrRow W sv ss->IntRow W nv ns->Calls Tryz.prog k #[.agg #[sv,nv,.int .i64 text]] W fun e w'=>e=.returned (vG r)/\Below W.heap.size W w') ∨
 (∃ k p,fn=.func k/\first= #[]/\cap= #[.pointer (some ⟨p,0,none⟩)]/\(∀ (args:Array Value) (w:World),Sem.run Tryz.prog (callFunc k args) w=.ok (.enter k args) w) /\
  ∀ W sv nv,Below w.heap.size w W->MaxL W->StrRow W sv ss->IntRow W nv ns->Calls Tryz.prog k #[.agg #[sv,nv,.int .i64 text],.pointer (some ⟨p,0,none⟩)] W fun e w'=>e=.returned (vG r)/\Below W.heap.size W w')
theorem cntK_all (c:ByteArray) (n:Nat):cntK c n true<=n:=by
 unfold cntK
 exact Nat.le_trans (List.length_filter_le _ _) (by rw[List.length_take];omega)
theorem text_do {w:World} {s c:ByteArray} {x:Int} {fn:Fn} {first cap:Array Value} {p q:Nat} (ht:zB1 s=some (c,x)) (hf:textFn p q s=some (.func fn first cap)) (hk:TextCells p q w)
  (text:Nat) (htx:text<=1024) (ss:List ByteArray) (ns:List Int) (n:Nat) (hb:between x c.size n=true) (hss:ss.length=cntK c n true) (hns:ns.length=cntK c n false) (hsz:∀ t∈ss,t.size<=1048576) (h64:∀ a∈ns,Is64 a):DoesT w fn first cap text ss ns (textDo s text ss ns):=by
 obtain⟨hk1,hk2,hk3,hk4⟩:=hk
 unfold zB1 at ht
 unfold textFn at hf
 unfold textDo
 simp only[between,Bool.and_eq_true,decide_eq_true_eq] at hb
 by_cases eNUM:(⟨#[78,85,77]⟩:ByteArray)=s
 ·rw[if_pos eNUM] at ht hf ⊢
  cases ht
  cases hf
  have hcs:((⟨#[115]⟩:ByteArray).size:Int)=1:=rfl
  obtain rfl:n=1:=by omega
  have hsl:ss.length=1:=hss.trans (by decide)
  have hnl:ns.length=0:=hns.trans (by decide)
  match ss,ns,hsl,hnl,hsz,h64 with
  | [t0],[],_,_,hsz,h64 =>
    have z0:=hsz t0 (by simp)
    clear hsz h64
    refine .inl ⟨_,rfl,rfl,rfl,fun _ _=>rfl,fun W sv nv hBW hMW hS hN=> ?_⟩
    obtain⟨A,cA,rfl,hA⟩:=hS
    obtain⟨g,rfl,hg,hx⟩:=hA (by simp)
    have q0:=hx 0 _ rfl
    exact texts_num g cA 1 (by decide) t0 z0 nv text W hMW q0
 rw[if_neg eNUM] at ht hf ⊢
 by_cases eREV:(⟨#[82,69,86]⟩:ByteArray)=s
 ·rw[if_pos eREV] at ht hf ⊢
  cases ht
  cases hf
  have hcs:((⟨#[115]⟩:ByteArray).size:Int)=1:=rfl
  obtain rfl:n=1:=by omega
  have hsl:ss.length=1:=hss.trans (by decide)
  have hnl:ns.length=0:=hns.trans (by decide)
  match ss,ns,hsl,hnl,hsz,h64 with
  | [t0],[],_,_,hsz,h64 =>
    have z0:=hsz t0 (by simp)
    clear hsz h64
    refine .inr ⟨_,_,rfl,rfl,rfl,fun _ _=>rfl,fun W sv nv hBW hMW hS hN=> ?_⟩
    obtain⟨A,cA,rfl,hA⟩:=hS
    obtain⟨g,rfl,hg,hx⟩:=hA (by simp)
    have q0:=hx 0 _ rfl
    exact texts_text _ (fun _ _=>rfl) _ g cA 1 (by decide) nv text t0 _ W (cell_below hk4 hBW) q0 (fun W2 hW2=>texts_rev t0 (by omega) W2)
 rw[if_neg eREV] at ht hf ⊢
 by_cases eEXACT:(⟨#[69,88,65,67,84]⟩:ByteArray)=s
 ·rw[if_pos eEXACT] at ht hf ⊢
  cases ht
  cases hf
  have hcs:((⟨#[115,115]⟩:ByteArray).size:Int)=2:=rfl
  obtain rfl:n=2:=by omega
  have hsl:ss.length=2:=hss.trans (by decide)
  have hnl:ns.length=0:=hns.trans (by decide)
  match ss,ns,hsl,hnl,hsz,h64 with
  | [t0,t1],[],_,_,hsz,h64 =>
    have z0:=hsz t0 (by simp)
    have z1:=hsz t1 (by simp)
    clear hsz h64
    refine .inl ⟨_,rfl,rfl,rfl,fun _ _=>rfl,fun W sv nv hBW hMW hS hN=> ?_⟩
    obtain⟨A,cA,rfl,hA⟩:=hS
    obtain⟨g,rfl,hg,hx⟩:=hA (by simp)
    have q0:=hx 0 _ rfl
    have q1:=hx 1 _ rfl
    exact texts_exact g cA nv text t0 t1 W q0 q1
 rw[if_neg eEXACT] at ht hf ⊢
 by_cases eCHAR:(⟨#[67,72,65,82]⟩:ByteArray)=s
 ·rw[if_pos eCHAR] at ht hf ⊢
  cases ht
  cases hf
  have hcs:((⟨#[110]⟩:ByteArray).size:Int)=1:=rfl
  obtain rfl:n=1:=by omega
  have hsl:ss.length=0:=hss.trans (by decide)
  have hnl:ns.length=1:=hns.trans (by decide)
  match ss,ns,hsl,hnl,hsz,h64 with
  | [],[a0],_,_,hsz,h64 =>
    have i0:=h64 a0 (by simp)
    clear hsz h64
    refine .inl ⟨_,rfl,rfl,rfl,fun _ _=>rfl,fun W sv nv hBW hMW hS hN=> ?_⟩
    obtain⟨B,cB,rfl,hB2⟩:=hN
    obtain⟨gn,rfl,hgn,hy⟩:=hB2 (by simp)
    have r0:=hy 0 _ rfl
    exact texts_char gn cB 1 (by decide) a0 i0 sv text W r0
 rw[if_neg eCHAR] at ht hf ⊢
 by_cases eORD:(⟨#[79,82,68]⟩:ByteArray)=s
 ·rw[if_pos eORD] at ht hf ⊢
  cases ht
  cases hf
  have hcs:((⟨#[115]⟩:ByteArray).size:Int)=1:=rfl
  obtain rfl:n=1:=by omega
  have hsl:ss.length=1:=hss.trans (by decide)
  have hnl:ns.length=0:=hns.trans (by decide)
  match ss,ns,hsl,hnl,hsz,h64 with
  | [t0],[],_,_,hsz,h64 =>
    have z0:=hsz t0 (by simp)
    clear hsz h64
    refine .inl ⟨_,rfl,rfl,rfl,fun _ _=>rfl,fun W sv nv hBW hMW hS hN=> ?_⟩
    obtain⟨A,cA,rfl,hA⟩:=hS
    obtain⟨g,rfl,hg,hx⟩:=hA (by simp)
    have q0:=hx 0 _ rfl
    exact texts_ord g cA 1 (by decide) nv text t0 W q0
 rw[if_neg eORD] at ht hf ⊢
 by_cases eCONCAT:(⟨#[67,79,78,67,65,84]⟩:ByteArray)=s
 ·rw[if_pos eCONCAT] at ht hf ⊢
  cases ht
  cases hf
  have hn1:1<=n:=by omega
  obtain⟨m,rfl⟩:∃ m,n=m+1:=⟨n-1,by omega⟩
  have hpos:0<ss.length:=by
   rw[hss]
   unfold cntK
   simp[List.take_succ_cons]
  have hle:ss.length<=16:=by
   have:=cntK_all ⟨#[115,115,115,115,115,115,115,115,115,115,115,115,115,115,115,115]⟩ (m+1)
   have h16:((⟨#[115,115,115,115,115,115,115,115,115,115,115,115,115,115,115,115]⟩:ByteArray).size:Int)=16:=rfl
   omega
  refine .inl ⟨_,rfl,rfl,rfl,fun _ _=>rfl,fun W sv nv hBW hMW hS hN=> ?_⟩
  obtain⟨A,cA,rfl,hA⟩:=hS
  obtain⟨g,rfl,hg,hx⟩:=hA hpos
  exact texts_concat g cA ss (by omega) nv text (by omega) W hg hx
 rw[if_neg eCONCAT] at ht hf ⊢
 by_cases eSUBST:(⟨#[83,85,66,83,84]⟩:ByteArray)=s
 ·rw[if_pos eSUBST] at ht hf ⊢
  cases ht
  cases hf
  have hcs:((⟨#[115,115,115]⟩:ByteArray).size:Int)=3:=rfl
  obtain rfl:n=3:=by omega
  have hsl:ss.length=3:=hss.trans (by decide)
  have hnl:ns.length=0:=hns.trans (by decide)
  match ss,ns,hsl,hnl,hsz,h64 with
  | [t0,t1,t2],[],_,_,hsz,h64 =>
    have z0:=hsz t0 (by simp)
    have z1:=hsz t1 (by simp)
    have z2:=hsz t2 (by simp)
    clear hsz h64
    refine .inl ⟨_,rfl,rfl,rfl,fun _ _=>rfl,fun W sv nv hBW hMW hS hN=> ?_⟩
    obtain⟨A,cA,rfl,hA⟩:=hS
    obtain⟨g,rfl,hg,hx⟩:=hA (by simp)
    have q0:=hx 0 _ rfl
    have q1:=hx 1 _ rfl
    have q2:=hx 2 _ rfl
    exact texts_subst g cA t0 t1 t2 z0 z2 nv text (by omega) W hMW q0 q1 q2
 rw[if_neg eSUBST] at ht hf ⊢
 by_cases eFIND:(⟨#[70,73,78,68]⟩:ByteArray)=s
 ·rw[if_pos eFIND] at ht hf ⊢
  cases ht
  cases hf
  have hcs:((⟨#[115,115,110]⟩:ByteArray).size:Int)=3:=rfl
  obtain rfl|rfl:n=2∨n=3:=by omega
  ·have hsl:ss.length=2:=hss.trans (by decide)
   have hnl:ns.length=0:=hns.trans (by decide)
   match ss,ns,hsl,hnl,hsz,h64 with
   | [t0,t1],[],_,_,hsz,h64 =>
     have z0:=hsz t0 (by simp)
     have z1:=hsz t1 (by simp)
     clear hsz h64
     refine .inl ⟨_,rfl,rfl,rfl,fun _ _=>rfl,fun W sv nv hBW hMW hS hN=> ?_⟩
     obtain⟨A,cA,rfl,hA⟩:=hS
     obtain⟨g,rfl,hg,hx⟩:=hA (by simp)
     have q0:=hx 0 _ rfl
     have q1:=hx 1 _ rfl
     obtain⟨B,cB,rfl,_⟩:=hN
     exact texts_place0 g cA cB B t0 t1 z1 text W hMW q0 q1
  ·have hsl:ss.length=2:=hss.trans (by decide)
   have hnl:ns.length=1:=hns.trans (by decide)
   match ss,ns,hsl,hnl,hsz,h64 with
   | [t0,t1],[a0],_,_,hsz,h64 =>
     have z0:=hsz t0 (by simp)
     have z1:=hsz t1 (by simp)
     have i0:=h64 a0 (by simp)
     clear hsz h64
     refine .inl ⟨_,rfl,rfl,rfl,fun _ _=>rfl,fun W sv nv hBW hMW hS hN=> ?_⟩
     obtain⟨A,cA,rfl,hA⟩:=hS
     obtain⟨g,rfl,hg,hx⟩:=hA (by simp)
     have q0:=hx 0 _ rfl
     have q1:=hx 1 _ rfl
     obtain⟨B,cB,rfl,hB2⟩:=hN
     obtain⟨gn,rfl,hgn,hy⟩:=hB2 (by simp)
     have r0:=hy 0 _ rfl
     exact texts_place1 g cA cB gn a0 i0 t0 t1 z1 text W hMW q0 q1 r0
 rw[if_neg eFIND] at ht hf ⊢
 by_cases eREPT:(⟨#[82,69,80,84]⟩:ByteArray)=s
 ·rw[if_pos eREPT] at ht hf ⊢
  cases ht
  cases hf
  have hcs:((⟨#[115,110]⟩:ByteArray).size:Int)=2:=rfl
  obtain rfl:n=2:=by omega
  have hsl:ss.length=1:=hss.trans (by decide)
  have hnl:ns.length=1:=hns.trans (by decide)
  match ss,ns,hsl,hnl,hsz,h64 with
  | [t0],[a0],_,_,hsz,h64 =>
    have z0:=hsz t0 (by simp)
    have i0:=h64 a0 (by simp)
    clear hsz h64
    refine .inl ⟨_,rfl,rfl,rfl,fun _ _=>rfl,fun W sv nv hBW hMW hS hN=> ?_⟩
    obtain⟨A,cA,rfl,hA⟩:=hS
    obtain⟨g,rfl,hg,hx⟩:=hA (by simp)
    have q0:=hx 0 _ rfl
    obtain⟨B,cB,rfl,hB2⟩:=hN
    obtain⟨gn,rfl,hgn,hy⟩:=hB2 (by simp)
    have r0:=hy 0 _ rfl
    exact texts_rept g cA gn cB 1 1 (by decide) (by decide) t0 a0 i0 z0 text (by omega) W q0 r0
 rw[if_neg eREPT] at ht hf ⊢
 by_cases eTRIM:(⟨#[84,82,73,77]⟩:ByteArray)=s
 ·rw[if_pos eTRIM] at ht hf ⊢
  cases ht
  cases hf
  have hcs:((⟨#[115]⟩:ByteArray).size:Int)=1:=rfl
  obtain rfl:n=1:=by omega
  have hsl:ss.length=1:=hss.trans (by decide)
  have hnl:ns.length=0:=hns.trans (by decide)
  match ss,ns,hsl,hnl,hsz,h64 with
  | [t0],[],_,_,hsz,h64 =>
    have z0:=hsz t0 (by simp)
    clear hsz h64
    refine .inr ⟨_,_,rfl,rfl,rfl,fun _ _=>rfl,fun W sv nv hBW hMW hS hN=> ?_⟩
    obtain⟨A,cA,rfl,hA⟩:=hS
    obtain⟨g,rfl,hg,hx⟩:=hA (by simp)
    have q0:=hx 0 _ rfl
    exact texts_text _ (fun _ _=>rfl) _ g cA 1 (by decide) nv text t0 _ W (cell_below hk3 hBW) q0 (fun W2 hW2=>texts_trim t0 z0 W2 (hMW.below hW2))
 rw[if_neg eTRIM] at ht hf ⊢
 by_cases eLOWER:(⟨#[76,79,87,69,82]⟩:ByteArray)=s
 ·rw[if_pos eLOWER] at ht hf ⊢
  cases ht
  cases hf
  have hcs:((⟨#[115]⟩:ByteArray).size:Int)=1:=rfl
  obtain rfl:n=1:=by omega
  have hsl:ss.length=1:=hss.trans (by decide)
  have hnl:ns.length=0:=hns.trans (by decide)
  match ss,ns,hsl,hnl,hsz,h64 with
  | [t0],[],_,_,hsz,h64 =>
    have z0:=hsz t0 (by simp)
    clear hsz h64
    refine .inr ⟨_,_,rfl,rfl,rfl,fun _ _=>rfl,fun W sv nv hBW hMW hS hN=> ?_⟩
    obtain⟨A,cA,rfl,hA⟩:=hS
    obtain⟨g,rfl,hg,hx⟩:=hA (by simp)
    have q0:=hx 0 _ rfl
    exact texts_text _ (fun _ _=>rfl) _ g cA 1 (by decide) nv text t0 _ W (cell_below hk2 hBW) q0 (fun W2 hW2=>texts_lower t0 (by omega) W2)
 rw[if_neg eLOWER] at ht hf ⊢
 by_cases eUPPER:(⟨#[85,80,80,69,82]⟩:ByteArray)=s
 ·rw[if_pos eUPPER] at ht hf ⊢
  cases ht
  cases hf
  have hcs:((⟨#[115]⟩:ByteArray).size:Int)=1:=rfl
  obtain rfl:n=1:=by omega
  have hsl:ss.length=1:=hss.trans (by decide)
  have hnl:ns.length=0:=hns.trans (by decide)
  match ss,ns,hsl,hnl,hsz,h64 with
  | [t0],[],_,_,hsz,h64 =>
    have z0:=hsz t0 (by simp)
    clear hsz h64
    refine .inr ⟨_,_,rfl,rfl,rfl,fun _ _=>rfl,fun W sv nv hBW hMW hS hN=> ?_⟩
    obtain⟨A,cA,rfl,hA⟩:=hS
    obtain⟨g,rfl,hg,hx⟩:=hA (by simp)
    have q0:=hx 0 _ rfl
    exact texts_text _ (fun _ _=>rfl) _ g cA 1 (by decide) nv text t0 _ W (cell_below hk1 hBW) q0 (fun W2 hW2=>texts_upper t0 (by omega) W2)
 rw[if_neg eUPPER] at ht hf ⊢
 by_cases eMID:(⟨#[77,73,68]⟩:ByteArray)=s
 ·rw[if_pos eMID] at ht hf ⊢
  cases ht
  cases hf
  have hcs:((⟨#[115,110,110]⟩:ByteArray).size:Int)=3:=rfl
  obtain rfl:n=3:=by omega
  have hsl:ss.length=1:=hss.trans (by decide)
  have hnl:ns.length=2:=hns.trans (by decide)
  match ss,ns,hsl,hnl,hsz,h64 with
  | [t0],[a0,a1],_,_,hsz,h64 =>
    have z0:=hsz t0 (by simp)
    have i0:=h64 a0 (by simp)
    have i1:=h64 a1 (by simp)
    clear hsz h64
    refine .inl ⟨_,rfl,rfl,rfl,fun _ _=>rfl,fun W sv nv hBW hMW hS hN=> ?_⟩
    obtain⟨A,cA,rfl,hA⟩:=hS
    obtain⟨g,rfl,hg,hx⟩:=hA (by simp)
    have q0:=hx 0 _ rfl
    obtain⟨B,cB,rfl,hB2⟩:=hN
    obtain⟨gn,rfl,hgn,hy⟩:=hB2 (by simp)
    have r0:=hy 0 _ rfl
    have r1:=hy 1 _ rfl
    exact texts_mid g cA gn cB 1 (by decide) a0 a1 text i0 t0 (by omega) W q0 r0 r1
 rw[if_neg eMID] at ht hf ⊢
 by_cases eRIGHT:(⟨#[82,73,71,72,84]⟩:ByteArray)=s
 ·rw[if_pos eRIGHT] at ht hf ⊢
  cases ht
  cases hf
  have hcs:((⟨#[115,110]⟩:ByteArray).size:Int)=2:=rfl
  obtain rfl|rfl:n=1∨n=2:=by omega
  ·have hsl:ss.length=1:=hss.trans (by decide)
   have hnl:ns.length=0:=hns.trans (by decide)
   match ss,ns,hsl,hnl,hsz,h64 with
   | [t0],[],_,_,hsz,h64 =>
     have z0:=hsz t0 (by simp)
     clear hsz h64
     refine .inl ⟨_,rfl,rfl,rfl,fun _ _=>rfl,fun W sv nv hBW hMW hS hN=> ?_⟩
     obtain⟨A,cA,rfl,hA⟩:=hS
     obtain⟨g,rfl,hg,hx⟩:=hA (by simp)
     have q0:=hx 0 _ rfl
     obtain⟨B,cB,rfl,_⟩:=hN
     exact texts_right g cA 1 (by decide) _ text 1 ⟨by decide,by decide⟩ t0 (by omega) W q0 (fun W2 hW2=>texts_count0 _ B cB text W2)
  ·have hsl:ss.length=1:=hss.trans (by decide)
   have hnl:ns.length=1:=hns.trans (by decide)
   match ss,ns,hsl,hnl,hsz,h64 with
   | [t0],[a0],_,_,hsz,h64 =>
     have z0:=hsz t0 (by simp)
     have i0:=h64 a0 (by simp)
     clear hsz h64
     refine .inl ⟨_,rfl,rfl,rfl,fun _ _=>rfl,fun W sv nv hBW hMW hS hN=> ?_⟩
     obtain⟨A,cA,rfl,hA⟩:=hS
     obtain⟨g,rfl,hg,hx⟩:=hA (by simp)
     have q0:=hx 0 _ rfl
     obtain⟨B,cB,rfl,hB2⟩:=hN
     obtain⟨gn,rfl,hgn,hy⟩:=hB2 (by simp)
     have r0:=hy 0 _ rfl
     exact texts_right g cA 1 (by decide) _ text a0 i0 t0 (by omega) W q0 (fun W2 hW2=>texts_count1 _ gn cB a0 text W2 ((hW2.cell (p:=⟨gn,0,none⟩) hgn).trans r0))
 rw[if_neg eRIGHT] at ht hf ⊢
 by_cases eLEFT:(⟨#[76,69,70,84]⟩:ByteArray)=s
 ·rw[if_pos eLEFT] at ht hf ⊢
  cases ht
  cases hf
  have hcs:((⟨#[115,110]⟩:ByteArray).size:Int)=2:=rfl
  obtain rfl|rfl:n=1∨n=2:=by omega
  ·have hsl:ss.length=1:=hss.trans (by decide)
   have hnl:ns.length=0:=hns.trans (by decide)
   match ss,ns,hsl,hnl,hsz,h64 with
   | [t0],[],_,_,hsz,h64 =>
     have z0:=hsz t0 (by simp)
     clear hsz h64
     refine .inl ⟨_,rfl,rfl,rfl,fun _ _=>rfl,fun W sv nv hBW hMW hS hN=> ?_⟩
     obtain⟨A,cA,rfl,hA⟩:=hS
     obtain⟨g,rfl,hg,hx⟩:=hA (by simp)
     have q0:=hx 0 _ rfl
     obtain⟨B,cB,rfl,_⟩:=hN
     exact texts_left g cA 1 (by decide) _ text 1 ⟨by decide,by decide⟩ t0 (by omega) W q0 (fun W2 hW2=>texts_count0 _ B cB text W2)
  ·have hsl:ss.length=1:=hss.trans (by decide)
   have hnl:ns.length=1:=hns.trans (by decide)
   match ss,ns,hsl,hnl,hsz,h64 with
   | [t0],[a0],_,_,hsz,h64 =>
     have z0:=hsz t0 (by simp)
     have i0:=h64 a0 (by simp)
     clear hsz h64
     refine .inl ⟨_,rfl,rfl,rfl,fun _ _=>rfl,fun W sv nv hBW hMW hS hN=> ?_⟩
     obtain⟨A,cA,rfl,hA⟩:=hS
     obtain⟨g,rfl,hg,hx⟩:=hA (by simp)
     have q0:=hx 0 _ rfl
     obtain⟨B,cB,rfl,hB2⟩:=hN
     obtain⟨gn,rfl,hgn,hy⟩:=hB2 (by simp)
     have r0:=hy 0 _ rfl
     exact texts_left g cA 1 (by decide) _ text a0 i0 t0 (by omega) W q0 (fun W2 hW2=>texts_count1 _ gn cB a0 text W2 ((hW2.cell (p:=⟨gn,0,none⟩) hgn).trans r0))
 rw[if_neg eLEFT] at ht hf ⊢
 by_cases eLEN:(⟨#[76,69,78]⟩:ByteArray)=s
 ·rw[if_pos eLEN] at ht hf ⊢
  cases ht
  cases hf
  have hcs:((⟨#[115]⟩:ByteArray).size:Int)=1:=rfl
  obtain rfl:n=1:=by omega
  have hsl:ss.length=1:=hss.trans (by decide)
  have hnl:ns.length=0:=hns.trans (by decide)
  match ss,ns,hsl,hnl,hsz,h64 with
  | [t0],[],_,_,hsz,h64 =>
    have z0:=hsz t0 (by simp)
    clear hsz h64
    refine .inl ⟨_,rfl,rfl,rfl,fun _ _=>rfl,fun W sv nv hBW hMW hS hN=> ?_⟩
    obtain⟨A,cA,rfl,hA⟩:=hS
    obtain⟨g,rfl,hg,hx⟩:=hA (by simp)
    have q0:=hx 0 _ rfl
    exact texts_len g cA 1 (by decide) nv text t0 (by omega) W q0
 rw[if_neg eLEN] at ht hf ⊢
 cases ht
theorem printS_le (x:Int) (h:Is64 x):(printS x).size<=100:=by
 unfold printS
 by_cases h1:x=minI
 ·rw[if_pos h1]
  decide
 ·rw[if_neg h1]
  have hh:(headS x).size<=30:=by
   have h2:=numS_le (x.natAbs / 10000) (by unfold Is64 at h;omega)
   unfold headS
   split
   ·rw[ByteArray.size_append]
    have:(⟨#[45]⟩:ByteArray).size=1:=rfl
    omega
   ·omega
  split
  ·omega
  ·have h2:=fracS_le (x.natAbs % 10000) (by omega)
   rw[ByteArray.size_append,ByteArray.size_append]
   have:(⟨#[46]⟩:ByteArray).size=1:=rfl
   omega
theorem asTxt_size (v:V) (h:Is64 v.num) (hs:v.str.size<=1048576):(zAR v).1.size<=1048576:=by
 unfold zAR
 have h0:(⟨#[]⟩:ByteArray).size=0:=rfl
 have h4:(⟨#[84,82,85,69]⟩:ByteArray).size=4:=rfl
 have h5:(⟨#[70,65,76,83,69]⟩:ByteArray).size=5:=rfl
 have hp:=printS_le v.num h
 repeat' split
 all_goals simp only
 all_goals(try split)
 all_goals omega
theorem whole_is64 (x:Int) (h:In63 x):Is64 (zAL x).1:=by
 unfold In63 at h
 unfold zAL
 split
 ·exact⟨by decide,by decide⟩
 ·have h1:x.tdiv 10000=x / 10000∨x.tdiv 10000= -((-x) / 10000):=by
   rcases Int.le_total 0 x with h0|h0
   ·exact .inl (Int.tdiv_eq_ediv_of_nonneg h0)
   ·right
    rw[show x= -(-x) by omega,Int.neg_tdiv,Int.tdiv_eq_ediv_of_nonneg (show 0<= -x by omega)]
    simp
  unfold Is64
  dsimp only
  rcases h1 with h1|h1<;>rw[h1]<;>omega
def textsGo (s:ByteArray) (text:Nat) (c:ByteArray):List V->Nat->List ByteArray->List Int->V
 | [],_,ss,ns=>textDo s text ss ns
 | v::r,j,ss,ns =>
   if (c.data.toList.getD j 0).toNat=115 then textsGo s text c r (j+1) (ss++[(zAR v).1]) ns
   else if (zA5 v).2≠0 then errG (zA5 v).2
   else if (zAL (zA5 v).1).2=false then errG 8
   else textsGo s text c r (j+1) ss (ns++[(zAL (zA5 v).1).1])
def zBd (s:ByteArray) (text:Nat) (vs:List V):V:=match vs.find? isF with
 | some v=>v
 | none=>match zB1 s with
   | none=>errG 8
   | some (c,_)=>textsGo s text c vs 0 [] []
def zBH (s:ByteArray) (al:List Arg) (ok:Nat->Bool) (tx:Int):V :=
 if tx<0∨1024<tx then errG 8
 else if (List.range al.length).all ok then if zBG s (al.map Arg.many) then zBd s tx.toNat (al.map Arg.val) else errG 8 else errG 8
theorem drop_at {α:Type} {l:List α} {j:Nat} {a:α} (h:l[j]? =some a):l.drop j=a::l.drop (j+1):=by
 obtain⟨hj,rfl⟩:=List.getElem?_eq_some_iff.1 h
 exact List.drop_eq_getElem_cons hj
theorem cntK_succ (c:ByteArray) (j:Nat) (b:Bool) (hj:j<c.size):cntK c (j+1) b=cntK c j b+(if ((c.data.toList.getD j 0)==115)==b then 1 else 0):=by
 have hj':j<c.data.toList.length:=by rw[Array.length_toList];exact hj
 unfold cntK
 rw[List.take_succ_eq_append_getElem hj',List.filter_append,List.length_append,List.getD,List.getElem?_eq_getElem hj']
 congr 1
 simp only[Option.getD_some,List.filter_cons,List.filter_nil]
 split<;>simp_all
theorem textTab_bounds {s c:ByteArray} {x:Int} (h:zB1 s=some (c,x)):1<=x/\c.size<=16:=by
 unfold zB1 at h
 by_cases eNUM:(⟨#[78,85,77]⟩:ByteArray)=s
 ·rw[if_pos eNUM] at h
  cases h
  exact⟨by decide,by decide⟩
 rw[if_neg eNUM] at h
 by_cases eREV:(⟨#[82,69,86]⟩:ByteArray)=s
 ·rw[if_pos eREV] at h
  cases h
  exact⟨by decide,by decide⟩
 rw[if_neg eREV] at h
 by_cases eEXACT:(⟨#[69,88,65,67,84]⟩:ByteArray)=s
 ·rw[if_pos eEXACT] at h
  cases h
  exact⟨by decide,by decide⟩
 rw[if_neg eEXACT] at h
 by_cases eCHAR:(⟨#[67,72,65,82]⟩:ByteArray)=s
 ·rw[if_pos eCHAR] at h
  cases h
  exact⟨by decide,by decide⟩
 rw[if_neg eCHAR] at h
 by_cases eORD:(⟨#[79,82,68]⟩:ByteArray)=s
 ·rw[if_pos eORD] at h
  cases h
  exact⟨by decide,by decide⟩
 rw[if_neg eORD] at h
 by_cases eCONCAT:(⟨#[67,79,78,67,65,84]⟩:ByteArray)=s
 ·rw[if_pos eCONCAT] at h
  cases h
  exact⟨by decide,by decide⟩
 rw[if_neg eCONCAT] at h
 by_cases eSUBST:(⟨#[83,85,66,83,84]⟩:ByteArray)=s
 ·rw[if_pos eSUBST] at h
  cases h
  exact⟨by decide,by decide⟩
 rw[if_neg eSUBST] at h
 by_cases eFIND:(⟨#[70,73,78,68]⟩:ByteArray)=s
 ·rw[if_pos eFIND] at h
  cases h
  exact⟨by decide,by decide⟩
 rw[if_neg eFIND] at h
 by_cases eREPT:(⟨#[82,69,80,84]⟩:ByteArray)=s
 ·rw[if_pos eREPT] at h
  cases h
  exact⟨by decide,by decide⟩
 rw[if_neg eREPT] at h
 by_cases eTRIM:(⟨#[84,82,73,77]⟩:ByteArray)=s
 ·rw[if_pos eTRIM] at h
  cases h
  exact⟨by decide,by decide⟩
 rw[if_neg eTRIM] at h
 by_cases eLOWER:(⟨#[76,79,87,69,82]⟩:ByteArray)=s
 ·rw[if_pos eLOWER] at h
  cases h
  exact⟨by decide,by decide⟩
 rw[if_neg eLOWER] at h
 by_cases eUPPER:(⟨#[85,80,80,69,82]⟩:ByteArray)=s
 ·rw[if_pos eUPPER] at h
  cases h
  exact⟨by decide,by decide⟩
 rw[if_neg eUPPER] at h
 by_cases eMID:(⟨#[77,73,68]⟩:ByteArray)=s
 ·rw[if_pos eMID] at h
  cases h
  exact⟨by decide,by decide⟩
 rw[if_neg eMID] at h
 by_cases eRIGHT:(⟨#[82,73,71,72,84]⟩:ByteArray)=s
 ·rw[if_pos eRIGHT] at h
  cases h
  exact⟨by decide,by decide⟩
 rw[if_neg eRIGHT] at h
 by_cases eLEFT:(⟨#[76,69,70,84]⟩:ByteArray)=s
 ·rw[if_pos eLEFT] at h
  cases h
  exact⟨by decide,by decide⟩
 rw[if_neg eLEFT] at h
 by_cases eLEN:(⟨#[76,69,78]⟩:ByteArray)=s
 ·rw[if_pos eLEN] at h
  cases h
  exact⟨by decide,by decide⟩
 rw[if_neg eLEN] at h
 cases h
theorem takesT_len {s:ByteArray} {xs:List Bool} (h:zBG s xs=true):∃ c x,zB1 s=some (c,x)/\between x c.size xs.length=true/\1<=xs.length/\xs.length<=16/\xs.length<=c.size:=by
 unfold zBG at h
 cases e:zB1 s with
 | none=>rw[e] at h;cases h
 | some p =>
   obtain⟨c,x⟩:=p
   rw[e] at h
   simp only[Bool.and_eq_true] at h
   have h1:=h.1
   obtain⟨b1,b2⟩:=textTab_bounds e
   simp only[between,Bool.and_eq_true,decide_eq_true_eq] at h1
   exact⟨c,x,rfl,h.1,by omega,by omega,by omega⟩
structure GivRel (Wb wr:World) (text:Int) (ss:List ByteArray) (ns:List Int) (sv nv:Value):Prop where
 bel:Below Wb.heap.size Wb wr
 box:wr.heap[Wb.heap.size]? =some (.cells #[sv,nv,.int .i64 text] 209 (0,0))
 os:wr.ownsRow Wb.heap.size 9 1 sv ss.length (ss.map Value.string)
 on:wr.ownsRow Wb.heap.size 3 1 nv ns.length (ns.map fun n=>Value.int .i64 n)
theorem GivRel.lt {Wb wr:World} {text:Int} {ss:List ByteArray} {ns:List Int} {sv nv:Value} (h:GivRel Wb wr text ss ns sv nv):Wb.heap.size<wr.heap.size:=(Array.getElem?_eq_some_iff.1 h.box).1
theorem GivRel.below {Wb wr w2:World} {text:Int} {ss:List ByteArray} {ns:List Int} {sv nv:Value} (h:GivRel Wb wr text ss ns sv nv) (hb:Below wr.heap.size wr w2):GivRel Wb w2 text ss ns sv nv :=
 ⟨h.bel.trans (hb.mono h.bel.size),(hb.block _ h.lt).trans h.box,own_below h.os hb,own_below h.on hb⟩
theorem GivRel.cell {Wb wr:World} {text:Int} {ss:List ByteArray} {ns:List Int} {sv nv:Value} (h:GivRel Wb wr text ss ns sv nv) :
  wr.cell? ⟨Wb.heap.size,0,none⟩=some sv/\wr.cell? ⟨Wb.heap.size,1,none⟩=some nv/\wr.cell? ⟨Wb.heap.size,2,none⟩=some (.int .i64 text)/\∀ i,wr.frozen? ⟨Wb.heap.size,i,none⟩=false:=by
 refine⟨?_,?_,?_,fun i=> ?_⟩
 ·rw[Lib.cell_of_heap h.box];rfl
 ·rw[Lib.cell_of_heap h.box];rfl
 ·rw[Lib.cell_of_heap h.box];rfl
 ·exact Lib.frozen_of_heap h.box i
theorem own_ne {w:World} {base e n b T:Nat} {v:Value} {xs:List Value} {cs:Array Value} {fr:Nat×Nat} (h:w.ownsRow base e 1 v n xs) (hb:w.heap[b]? =some (.cells cs T fr)) (hT:T≠e):v.ownBlock≠some b:=Lib.ownBlock_ne h hb hT
theorem grown_set1 (w:World) (b:Nat) (v:Value):w.grownBy (w.setCell ⟨b,1,none⟩ v) (some b) :=
 ⟨rfl,rfl,rfl,by simp,fun k _ hk=>heap_setCell_other w ⟨b,1,none⟩ k v (fun e=>hk (by simp[e]))⟩
theorem GivRel.boxS {Wb wr w1 w2:World} {text:Int} {ss:List ByteArray} {ns:List Int} {sv nv:Value} (h:GivRel Wb wr text ss ns sv nv) (hb:Below wr.heap.size wr w1) (hg:w1.grownBy w2 sv.ownBlock) :
  w2.heap[Wb.heap.size]? =some (.cells #[sv,nv,.int .i64 text] 209 (0,0)):=by
 have k:=h.below hb
 have n1:=own_ne k.os k.box (by decide)
 exact(hg.block _ k.lt (fun e=>n1 e.symm)).trans k.box
theorem GivRel.boxN {Wb wr w1 w2:World} {text:Int} {ss:List ByteArray} {ns:List Int} {sv nv:Value} (h:GivRel Wb wr text ss ns sv nv) (hb:Below wr.heap.size wr w1) (hg:w1.grownBy w2 nv.ownBlock) :
  w2.heap[Wb.heap.size]? =some (.cells #[sv,nv,.int .i64 text] 209 (0,0)):=by
 have k:=h.below hb
 have n1:=own_ne k.on k.box (by decide)
 exact(hg.block _ k.lt (fun e=>n1 e.symm)).trans k.box
theorem GivRel.addS {Wb wr w1 w2:World} {text:Int} {ss:List ByteArray} {ns:List Int} {sv nv sv':Value} {t:ByteArray} (h:GivRel Wb wr text ss ns sv nv) (hb:Below wr.heap.size wr w1)
  (ho:w2.ownsRow Wb.heap.size 9 1 sv' (ss.length+1) (ss.map Value.string++[.string t])) (hg:w1.grownBy w2 sv.ownBlock):GivRel Wb (w2.setCell ⟨Wb.heap.size,0,none⟩ sv') text (ss++[t]) ns sv' nv:=by
 have k:=h.below hb
 have n1:=own_ne k.os k.box (by decide)
 have n2:=own_ne k.on k.box (by decide)
 have b2:w2.heap[Wb.heap.size]? =some (.cells #[sv,nv,.int .i64 text] 209 (0,0)):=(hg.block _ k.lt (fun e=>n1 e.symm)).trans k.box
 have o2:w2.ownsRow Wb.heap.size 3 1 nv ns.length (ns.map fun n=>Value.int .i64 n):=k.on.kept hg (by
  rcases k.os.2 with ⟨h1,_⟩|⟨g,cap,cur,h1,_,hgb,_⟩
  ·rcases k.on.2 with ⟨h2,_⟩|⟨g2,cap2,cur2,h2,_,hgb2,_⟩
   ·exact .inl (by rw[h2];rfl)
   ·exact .inr (by rw[h1,h2];simp[Value.ownBlock])
  ·rcases k.on.2 with ⟨h2,_⟩|⟨g2,cap2,cur2,h2,_,hgb2,_⟩
   ·exact .inl (by rw[h2];rfl)
   ·refine .inr ?_
    rw[h1,h2]
    simp only[Value.ownBlock]
    intro e
    injection e with e
    subst e
    rw[hgb] at hgb2
    injection hgb2 with hgb2
    injection hgb2 with _ hh _
    exact absurd hh (by decide))
 have n3:=own_ne ho b2 (by decide)
 have n4:=own_ne o2 b2 (by decide)
 refine⟨(k.bel.grown hg k.bel.size (own_block_ge k.os)).setCell (p:=⟨Wb.heap.size,0,none⟩) (Nat.le_refl _) sv',?_,?_,?_⟩
 ·obtain⟨hlt,hk⟩:=Array.getElem?_eq_some_iff.1 b2
  show (w2.heap.modify Wb.heap.size _)[Wb.heap.size]? =_
  rw[Array.getElem?_eq_getElem (by rw[Array.size_modify];exact hlt),Array.getElem_modify_self,hk]
  rfl
 ·have:=ho.kept (grownBy_setCell' w2 Wb.heap.size sv') (.inr n3)
  simpa using this
 ·exact o2.kept (grownBy_setCell' w2 Wb.heap.size sv') (.inr n4)
theorem GivRel.addN {Wb wr w1 w2:World} {text:Int} {ss:List ByteArray} {ns:List Int} {sv nv nv':Value} {t:Int} (h:GivRel Wb wr text ss ns sv nv) (hb:Below wr.heap.size wr w1)
  (ho:w2.ownsRow Wb.heap.size 3 1 nv' (ns.length+1) ((ns.map fun n=>Value.int .i64 n)++[.int .i64 t])) (hg:w1.grownBy w2 nv.ownBlock):GivRel Wb (w2.setCell ⟨Wb.heap.size,1,none⟩ nv') text ss (ns++[t]) sv nv':=by
 have k:=h.below hb
 have n1:=own_ne k.on k.box (by decide)
 have b2:w2.heap[Wb.heap.size]? =some (.cells #[sv,nv,.int .i64 text] 209 (0,0)):=(hg.block _ k.lt (fun e=>n1 e.symm)).trans k.box
 have o2:w2.ownsRow Wb.heap.size 9 1 sv ss.length (ss.map Value.string):=k.os.kept hg (by
  rcases k.on.2 with ⟨h1,_⟩|⟨g,cap,cur,h1,_,hgb,_⟩
  ·rcases k.os.2 with ⟨h2,_⟩|⟨g2,cap2,cur2,h2,_,hgb2,_⟩
   ·exact .inl (by rw[h2];rfl)
   ·exact .inr (by rw[h1,h2];simp[Value.ownBlock])
  ·rcases k.os.2 with ⟨h2,_⟩|⟨g2,cap2,cur2,h2,_,hgb2,_⟩
   ·exact .inl (by rw[h2];rfl)
   ·refine .inr ?_
    rw[h1,h2]
    simp only[Value.ownBlock]
    intro e
    injection e with e
    subst e
    rw[hgb] at hgb2
    injection hgb2 with hgb2
    injection hgb2 with _ hh _
    exact absurd hh (by decide))
 have n3:=own_ne ho b2 (by decide)
 have n4:=own_ne o2 b2 (by decide)
 refine⟨(k.bel.grown hg k.bel.size (own_block_ge k.on)).setCell (p:=⟨Wb.heap.size,1,none⟩) (Nat.le_refl _) nv',?_,?_,?_⟩
 ·obtain⟨hlt,hk⟩:=Array.getElem?_eq_some_iff.1 b2
  show (w2.heap.modify Wb.heap.size _)[Wb.heap.size]? =_
  rw[Array.getElem?_eq_getElem (by rw[Array.size_modify];exact hlt),Array.getElem_modify_self,hk]
  rfl
 ·exact o2.kept (grown_set1 w2 _ _) (.inr n4)
 ·have:=ho.kept (grown_set1 w2 Wb.heap.size nv') (.inr n3)
  simpa using this
theorem strRow_of {w:World} {base:Nat} {v:Value} {ss:List ByteArray} (h:w.ownsRow base 9 1 v ss.length (ss.map Value.string)):StrRow w v ss:=by
 obtain⟨A,c,rfl⟩:=zAK h
 refine⟨A,c,rfl,fun h0=> ?_⟩
 obtain⟨g,c',e,_,hg,hx⟩:=own_form h h0
 cases e
 exact⟨g,rfl,hg,fun j s hj=>hx j _ (by simp[hj])⟩
theorem intRow_of {w:World} {base:Nat} {v:Value} {ns:List Int} (h:w.ownsRow base 3 1 v ns.length (ns.map fun n=>Value.int .i64 n)):IntRow w v ns:=by
 obtain⟨A,c,rfl⟩:=zAK h
 refine⟨A,c,rfl,fun h0=> ?_⟩
 obtain⟨g,c',e,_,hg,hx⟩:=own_form h h0
 cases e
 exact⟨g,rfl,hg,fun j s hj=>hx j _ (by simp[hj])⟩
open Go.Lib renaming hid->zh
theorem wr64 {n:Int} (h0: -9223372036854775808<=n) (h1:n<=9223372036854775807):wrap64 n=n:=by unfold wrap64;omega
def fitG (S:Int):V:=if S< -9223372036854775808∨9223372036854775807<S then errG 2 else numG S
def zBm (a:Arg):Int:=a.bottom-a.top+1
def zBl (a:Arg):Int:=a.right-a.left+1
def zAQ (a:Arg):Prop:=(-100000<=a.top/\a.top<=100000)/\(-100000<=a.left/\a.left<=100000)/\(-100000<=a.bottom/\a.bottom<=100000)/\(-100000<=a.right/\a.right<=100000)
def alikeG (a b:Arg):Bool:=(zBm a==zBm b)&&(zBl a==zBl b)
def intG (v:V):Int×Int:=if (zA5 v).2≠0 then (0,(zA5 v).2) else if (zAL (zA5 v).1).2=false then (0,8) else ((zAL (zA5 v).1).1,0)
def prodGo:Int->List Int->V
 | p,[]=>numG p
 | p,x::l=>if (mulX p x).2≠0 then errG (mulX p x).2 else prodGo (mulX p x).1 l
theorem mul64 (p x:Int):Is64 (mulX p x).1:=by
 unfold Is64 mulX signX
 repeat' split
 all_goals simp only
 all_goals omega
theorem aggs_fit (S:Int) (w:World):Rt 202 #[.agg #[.int .i64 (S / 18446744073709551616),.int .u64 (S % 18446744073709551616)]] w (vG (fitG S)):=by
 by_cases h:S< -9223372036854775808∨9223372036854775807<S
 ·have hq:(S / 18446744073709551616 != wrap64 (S % 18446744073709551616) / 9223372036854775808)=true:=by
   simp only[bne_iff_ne,ne_eq]
   unfold wrap64
   omega
  unfold fitG
  rw[if_pos h]
  clear h
  go_enter Tryz.func202,Tryz.ntmps202
  go_wp2_with(go_at_call 21;refine mB (zA3 _ _) ?_;intro l3 q3)
  all_goals go_returns
  all_goals exact⟨rfl,bel⟩
 ·have hq:(S / 18446744073709551616 != wrap64 (S % 18446744073709551616) / 9223372036854775808)=false:=by
   rw[bne_eq_false_iff_eq]
   unfold wrap64
   omega
  have hw:wrap64 (S % 18446744073709551616)=S:=by unfold wrap64;omega
  unfold fitG
  rw[if_neg h]
  rw[hw] at hq
  clear h
  go_enter Tryz.func202,Tryz.ntmps202
  go_wp2_with(go_at_call 55;refine mB (zAq _ _) ?_;intro l3 q3)
  all_goals go_returns
  all_goals exact⟨rfl,bel⟩
theorem aggs_whole (n:Int) (h0: -900000000000000<=n) (h1:n<=900000000000000) (w:World):Rt 222 #[.int .i64 n] w (vG (numG (n*10000))):=by
 have hw:wrap64 (n*10000)=n*10000:=wr64 (by omega) (by omega)
 clear h0 h1
 go_enter Tryz.func222,Tryz.ntmps222
 go_wp2_with(go_at_call 55;refine mB (zAq _ _) ?_;intro l3 q3)
 all_goals go_returns
 all_goals exact⟨rfl,bel⟩
theorem aggs_rows (a:Arg) (h:zAQ a) (w:World):Rt 223 #[a.agg] w (.int .i64 (zBm a)):=by
 unfold zAQ at h
 have e1:wrap64 (a.bottom-a.top)=a.bottom-a.top:=wr64 (by omega) (by omega)
 have e2:wrap64 (a.bottom-a.top+1)=a.bottom-a.top+1:=wr64 (by omega) (by omega)
 clear h
 unfold Arg.agg
 go_enter Tryz.func223,Tryz.ntmps223
 go_wp2
 all_goals go_returns
 all_goals exact⟨congrArg (fun z=>Ending.returned (Value.int .i64 z)) (show wrap64 (a.bottom-a.top+1)=zBm a by rw[e2];rfl),bel⟩
theorem aggs_cols (a:Arg) (h:zAQ a) (w:World):Rt 225 #[a.agg] w (.int .i64 (zBl a)):=by
 unfold zAQ at h
 have e1:wrap64 (a.right-a.left)=a.right-a.left:=wr64 (by omega) (by omega)
 have e2:wrap64 (a.right-a.left+1)=a.right-a.left+1:=wr64 (by omega) (by omega)
 clear h
 unfold Arg.agg
 go_enter Tryz.func225,Tryz.ntmps225
 go_wp2
 all_goals go_returns
 all_goals exact⟨congrArg (fun z=>Ending.returned (Value.int .i64 z)) (show wrap64 (a.right-a.left+1)=zBl a by rw[e2];rfl),bel⟩
theorem aggs_isN (v:V) (w:World):Rt 211 #[(vG v)] w (.bool (v.tag==1)):=by
 go_enter Tryz.func211,Tryz.ntmps211
 go_wp2
 all_goals go_returns
 all_goals exact⟨rfl,bel⟩
theorem aggs_isA (v:V) (w:World):Rt 212 #[(vG v)] w (.bool (v.tag != 0)):=by
 go_enter Tryz.func212,Tryz.ntmps212
 go_wp2
 all_goals go_returns
 all_goals exact⟨rfl,bel⟩
theorem aggs_integer (v:V) (h:Is64 v.num) (w:World):Rt 275 #[(vG v)] w (.tuple #[.int .i64 (intG v).1,.int .i64 (intG v).2]):=by
 have HA63:=zh (asNum_63 v h)
 obtain⟨x0,hx0⟩:∃ x0,(zA5 v).1=x0:=⟨_,rfl⟩
 obtain⟨cd,hcd⟩:∃ cd,(zA5 v).2=cd:=⟨_,rfl⟩
 have HNR:=zh (fun W=>(show Rt 35 #[(vG v)] W (.tuple #[.int .i64 x0,.int .i64 cd]) by have:=zAG v W;rw[hx0,hcd] at this;exact this))
 unfold intG
 rw[hx0,hcd]
 rw[hx0] at HA63
 clear hx0 hcd h
 by_cases hc0:cd=0
 ·subst hc0
  rw[if_neg (by simp)]
  obtain⟨y0,hy0⟩:∃ y0,(zAL x0).1=y0:=⟨_,rfl⟩
  obtain⟨k0,hk0⟩:∃ k0,(zAL x0).2=k0:=⟨_,rfl⟩
  rw[hy0,hk0]
  have HWR:=zh (fun W=>(show Calls Tryz.prog 134 #[.int .i64 x0] W fun e w'=>e=.returned (.tuple #[.int .i64 y0,.bool k0])/\W=w' by have:=zAs x0 (by have:=HA63.out;unfold In63 at this;omega) (by have:=HA63.out;unfold In63 at this;omega) W;rw[hy0,hk0] at this;exact this))
  clear hy0 hk0
  cases k0
  all_goals go_enter Tryz.func275,Tryz.ntmps275
  all_goals go_wp2_with(first|(go_at_call 35;refine mB (HNR.out _) ?_;intro l2 q2)|(go_at_call 134;refine(HWR.out _).mono ?_;rintro e w4 ⟨rfl,hb⟩;subst hb))
  all_goals go_returns
  all_goals exact⟨rfl,bel⟩
 ·rw[if_pos hc0]
  have hcd':(cd != 0)=true:=by simpa using hc0
  clear hc0
  go_enter Tryz.func275,Tryz.ntmps275
  go_wp2_with(go_at_call 35;refine mB (HNR.out _) ?_;intro l2 q2)
  all_goals go_returns
  all_goals exact⟨rfl,bel⟩
theorem aggs_alike (a b:Arg) (ha:zAQ a) (hb:zAQ b) (w:World):Rt 273 #[a.agg,b.agg] w (.bool (alikeG a b)):=by
 have HRA:=zh (aggs_rows a ha)
 have HRB:=zh (aggs_rows b hb)
 have HCA:=zh (aggs_cols a ha)
 have HCB:=zh (aggs_cols b hb)
 unfold alikeG
 obtain⟨ra,hra⟩:∃ ra,zBm a=ra:=⟨_,rfl⟩
 obtain⟨rb,hrb⟩:∃ rb,zBm b=rb:=⟨_,rfl⟩
 obtain⟨ca,hca⟩:∃ ca,zBl a=ca:=⟨_,rfl⟩
 obtain⟨cb,hcb⟩:∃ cb,zBl b=cb:=⟨_,rfl⟩
 rw[hra] at HRA;rw[hrb] at HRB;rw[hca] at HCA;rw[hcb] at HCB
 rw[hra,hrb,hca,hcb]
 clear hra hrb hca hcb ha hb
 unfold Arg.agg at *
 cases hz:(ra==rb)
 all_goals go_enter Tryz.func273,Tryz.ntmps273
 all_goals go_wp2
 all_goals(refine qmI ?_;(repeat(go_big_quiet_step (first|(go_at_call 223;first|with_reducible exact Calls.zA6 (HRA.out _)|with_reducible exact Calls.zA6 (HRB.out _))|(go_at_call 225;first|with_reducible exact Calls.zA6 (HCA.out _)|with_reducible exact Calls.zA6 (HCB.out _)))));refine qmE ?_;intro lq nq)
 all_goals go_wp2
 all_goals go_returns
 all_goals exact⟨by simp,bel⟩
theorem aggs_prod (l:List Int) (A:Option Addr) (n c B:Nat) (w:World) (hr:Reads w B 1 A n (I l)) (hm:n<=1000000000000) (h64:∀ x∈l,Is64 x) :
  Rt 204 #[.slice A n c] w (vG (prodGo 10000 l)):=by
 have hlen:l.length=n:=by have:=hr.1;simp[I] at this;omega
 obtain⟨R,hR⟩:∃ R,prodGo 10000 l=R:=⟨_,rfl⟩
 rw[hR]
 have HRX:=zh hR
 have HR:=zh hr
 have H64:=zh h64
 clear hr h64 hR
 go_enter Tryz.func204,Tryz.ntmps204
 go_wp2
 go_loopw [10,3] (fun t v wr=>∃ j:Nat,∃ p:Int,j<=n/\t=.int .i64 j/\v=.int .i64 p/\Is64 p/\prodGo p (l.drop j)=R/\Below (w.alloc zeroV).heap.size (w.alloc zeroV) wr) (fun t _ _=>n-(intOf t).toNat)
 case atStart=>exact⟨0,10000,Nat.zero_le _,rfl,rfl,⟨by decide,by decide⟩,HRX.out,Below.refl _ _⟩
 case round =>
  obtain⟨j,p,hj,rfl,rfl,hp,hgo,hB⟩:=hrel
  have hb2:Below w.heap.size w wr:=(show Below w.heap.size w (w.alloc zeroV) from bel).trans (hB.mono (by simp))
  have HB:=zh hB
  have HB2:=zh hb2
  have HP:=zh hp
  clear hB hb2 hp
  by_cases hlt:j<n
  ·obtain⟨x,hx⟩:∃ x,l[j]? =some x:=⟨_,List.getElem?_eq_getElem (show j<l.length by omega)⟩
   obtain⟨bk,off,rfl,_,hc⟩:=HR.out.2 (by omega)
   have h1:=hc j (.int .i64 x) (by simp[I,hx])
   have c0:wr.cell? ⟨bk,off+j,none⟩=some (.int .i64 x):=(HB2.out.cell (p:=⟨bk,_,none⟩) (World.block_lt_of_cell? w _ h1)).trans h1
   have hbr:=World.block_lt_of_cell? wr _ c0
   have hx64:=H64.out x (List.mem_of_getElem? hx)
   have HM:=zh (fun W=>dec_Mul p x HP.out hx64 W)
   have HMF:=zh (mul64 p x)
   rw[drop_at hx] at hgo
   unfold prodGo at hgo
   obtain⟨q,hq⟩:∃ q,(mulX p x).1=q:=⟨_,rfl⟩
   obtain⟨cd,hcd⟩:∃ cd,(mulX p x).2=cd:=⟨_,rfl⟩
   rw[hq,hcd] at HM hgo
   rw[hq] at HMF
   have H1:=zh h1
   clear hq hcd hx hc h1 hx64
   by_cases hc0:cd=0
   ·subst hc0
    rw[if_neg (by simp)] at hgo
    have HGO:=zh hgo
    clear hgo
    go_wp2_with(go_at_call 61;refine mB (HM.out _) ?_;intro l2 q2)
    go_roundw
    case rel=>exact⟨j+1,q,by omega,by go_num,rfl,HMF.out,HGO.out,HB.out.trans ((show Below wr.heap.size wr _ from bel).mono HB.out.size)⟩
    case measure=>simp[intOf];omega
   ·rw[if_pos hc0] at hgo
    have hcd':(cd != 0)=true:=by simpa using hc0
    have HRR:=zh hgo.symm
    obtain⟨l0,q0,hwe⟩:=zA0 HB.out
    subst hwe
    clear hgo hc0 c0 hbr
    unfold zeroV at *
    have c0:=H1.out
    have hbr:=World.block_lt_of_cell? w _ c0
    go_wp2_with(first|(go_at_call 61;refine mB (HM.out _) ?_;intro l2 q2)|(go_at_call 21;refine mB (zA3 _ _) ?_;intro l3 q3))
    all_goals go_returns
    all_goals exact⟨by rw[HRR.out],bel⟩
  ·obtain rfl:j=n:=by omega
   rw[List.drop_of_length_le (by omega)] at hgo
   have HRR:=zh (show R=numG p from hgo.symm)
   obtain⟨l0,q0,hwe⟩:=zA0 HB.out
   subst hwe
   clear hgo
   unfold zeroV at *
   go_wp2_with(go_at_call 55;refine mB (zAq _ _) ?_;intro l3 q3)
   all_goals go_returns
   all_goals exact⟨by rw[HRR.out],bel⟩
def ren_B:Go.Shelf.Ren:=⟨fun _=>269,fun _=>146,fun k=>k⟩
theorem lays_B:Go.Proofs.Lays7.n26 Tryz.prog ren_B:= {
 mixed:=by kernel_rfl
 f26:=by kernel_rfl
 t22:=by kernel_rfl
 a22:=fun w=>by kernel_rfl
 z22:=fun w=>by kernel_rfl
 v22:=fun w=>by kernel_rfl
 i22:=by kernel_rfl }
theorem run_Sub64 (y:Nat) (w:World):(callFunc 269 #[.int .u64 0,.int .u64 y,.int .u64 0]).run Tryz.prog w =
  .ok (.value (.tuple #[.int .u64 (((0+18446744073709551616-y-0) % 18446744073709551616:Nat):Int),.int .u64 ((if 0<y+0 then 1 else 0:Nat):Int)])) w :=
 Any7.bits_Sub64 lays_B 0 y 0 (by decide) w
theorem div64_any (hi lo y:Nat) (h:hi<y) (hl:lo<18446744073709551616) (hy:y<18446744073709551616) (w:World):Rt 59 #[.int .u64 hi,.int .u64 lo,.int .u64 y] w (.tuple #[.int .u64 (((hi*18446744073709551616+lo) / y:Nat):Int),.int .u64 (((hi*18446744073709551616+lo) % y:Nat):Int)]):=by
 by_cases h0:hi=0
 ·subst h0
  simp only[Nat.zero_mul,Nat.zero_add]
  exact div64_zero lo y h hl hy w
 ·exact bits_Div64 hi lo y (by omega) h hl hy w
theorem neg_words {M y hi lo:Nat} {H:Int} (h0:0<M) (hH:H= -(M:Int) / 18446744073709551616) (hy:(y:Int)= -(M:Int) % 18446744073709551616) (hhi:M / 18446744073709551616=hi) (hlo:M % 18446744073709551616=lo) :
  H<0/\(0+18446744073709551616-y-0) % 18446744073709551616=lo/\(0<y-> -H-1=hi)/\(y=0-> -H=hi):=by
 refine⟨by omega,by omega,fun h=>by omega,fun h=>by omega⟩
theorem pos_words {M y hi lo:Nat} {H:Int} (hH:H=(M:Int) / 18446744073709551616) (hy:(y:Int)=(M:Int) % 18446744073709551616) (hhi:M / 18446744073709551616=hi) (hlo:M % 18446744073709551616=lo) :
  H=hi/\y=lo:=by
 omega
theorem wu64 {n:Int} (h0:0<=n) (h1:n<=18446744073709551615):IntKind.u64.wrap n=n:=by
 show n % 18446744073709551616=n
 omega
theorem wrn (q:Nat) (h:q<=9223372036854775807):wrap64 (-(q:Int))= -(q:Int):=by unfold wrap64;omega
theorem wrn1 (q:Nat) (h:q+1<=9223372036854775807):wrap64 (-((q:Int)+1))= -((q:Int)+1):=by unfold wrap64;omega
theorem wrq (q:Nat) (h:q<=9223372036854775807):wrap64 (q:Int)=(q:Int):=by unfold wrap64;omega
theorem wrq1 (q:Nat) (h:q+1<=9223372036854775807):wrap64 ((q:Int)+1)=(q:Int)+1:=by unfold wrap64;omega
theorem wuq1 (q:Nat) (h:q+1<=9223372036854775807):IntKind.u64.wrap ((q:Int)+1)=(q:Int)+1:=wu64 (by omega) (by omega)
def meanN (m n:Nat):Nat:=if n-m % n<=m % n then m / n+1 else m / n
def meanG (l:List Int):Int:=if l.sum<0 then -(meanN l.sum.natAbs l.length:Int) else meanN l.sum.natAbs l.length
theorem sum_le (l:List Int) (h:∀ x∈l,In63 x):l.sum.natAbs<=l.length*9223372036854775807:=by
 induction l with
 | nil=>simp
 | cons x l ih =>
   have h1:=ih (fun y hy=>h y (List.mem_cons_of_mem _ hy))
   have h2:=h x (by simp)
   unfold In63 at h2
   rw[List.sum_cons,List.length_cons]
   omega
structure MeanF (M n:Nat) (hi lo q r:Nat):Prop where
 hhi:M / 18446744073709551616=hi
 hlo:M % 18446744073709551616=lo
 lt:hi<n
 ll:lo<18446744073709551616
 hq:(hi*18446744073709551616+lo) / n=q
 hr:(hi*18446744073709551616+lo) % n=r
 rn:r<n
 ql:q<=9223372036854775807
 up:n-r<=r->q+1<=9223372036854775807
 mn:meanN M n=if n-r<=r then q+1 else q
theorem mean_facts {M n:Nat} (hn:0<n) (hM:M<=n*9223372036854775807):∃ hi lo q r,MeanF M n hi lo q r:=by
 have e:M / 18446744073709551616*18446744073709551616+M % 18446744073709551616=M:=by omega
 have hq:M / n<=9223372036854775807:=Nat.div_le_of_le_mul hM
 have hr:=Nat.mod_lt M hn
 have hd:=Nat.div_add_mod M n
 refine⟨_,_,_,_,rfl,rfl,?_,Nat.mod_lt _ (by decide),rfl,rfl,?_,?_,?_,?_⟩
 ·have h1:M / 18446744073709551616<=n / 2:=by omega
  omega
 ·rw[e];exact hr
 ·rw[e];exact hq
 ·rw[e]
  intro hh
  rcases Nat.lt_or_ge (M / n) 9223372036854775807 with h|h
  ·exact h
  ·have h2:M / n=9223372036854775807:=by omega
   rw[h2] at hd
   omega
 ·rw[e];rfl
theorem aggs_mean (l:List Int) (A:Option Addr) (n c B:Nat) (w:World) (hr:Reads w B 1 A n (I l)) (hn:0<n) (hm:n<=1000000000000) (h63:∀ x∈l,In63 x) :
  Rt 208 #[.slice A n c] w (.int .i64 (meanG l)):=by
 have hlen:l.length=n:=by have:=hr.1;simp[I] at this;omega
 have hM:=sum_le l h63
 rw[hlen] at hM
 obtain⟨hi,lo,q,r,F⟩:=mean_facts hn hM
 have HS:=zh (fun W (hb:Below B w W)=>aggs_sum l A n c B W (hr.below hb) hm (fun x hx=>by have:=h63 x hx;unfold In63 at this;unfold Is64;omega))
 unfold meanG
 rw[hlen]
 obtain⟨S,hS⟩:∃ S,l.sum=S:=⟨_,rfl⟩
 rw[hS] at HS F ⊢
 rw[F.mn]
 have HD:=zh (fun W=>(show Rt 59 #[.int .u64 hi,.int .u64 lo,.int .u64 n] W (.tuple #[.int .u64 (q:Int),.int .u64 (r:Int)]) by have:=div64_any hi lo n F.lt F.ll (by omega) W;rw[F.hq,F.hr] at this;exact this))
 have hhi:=F.hhi
 have hlo:=F.hlo
 have hlt:=F.lt
 have hll:=F.ll
 have hrn:=F.rn
 have hql:=F.ql
 have hup':=F.up
 have k1:IntKind.u64.wrap (hi:Int)=hi:=wu64 (by omega) (by omega)
 have k2:IntKind.u64.wrap (n:Int)=n:=wu64 (by omega) (by omega)
 have k3:IntKind.u64.wrap ((n:Int)-(r:Int))=(n:Int)-(r:Int):=wu64 (by omega) (by omega)
 clear hr h63 hM F hlen hS
 obtain⟨H,hH⟩:∃ H,H=S / 18446744073709551616:=⟨_,rfl⟩
 obtain⟨y,hy⟩:∃ y:Nat,(y:Int)=S % 18446744073709551616:=⟨(S % 18446744073709551616).toNat,by omega⟩
 rw[<- hH,<-hy] at HS
 by_cases hneg:S<0
 ·rw[if_pos hneg]
  obtain⟨M,hMM⟩:∃ M:Nat,S.natAbs=M:=⟨_,rfl⟩
  have hSM:S= -(M:Int):=by omega
  have hM0:0<M:=by omega
  rw[hMM] at hhi hlo
  rw[hSM] at hH hy
  obtain⟨w1,hlo2,w3,w4⟩:=neg_words hM0 hH hy hhi hlo
  clear hMM hSM hM0 hH hy hhi hlo hneg
  obtain⟨bo,hbo⟩:∃ bo:Nat,(if 0<y+0 then 1 else 0:Nat)=bo:=⟨_,rfl⟩
  have hA:=fun W=>run_Sub64 y W
  rw[hbo,hlo2] at hA
  have hsum:(decide (H<0))=true:=by simpa using w1
  have hb2:(bo:Int)=0/\ -H=hi∨(bo:Int)=1/\ -H-1=hi:=by
   rcases Nat.eq_zero_or_pos y with h|h
   ·left;subst h;exact⟨by rw[<- hbo];rfl,w4 rfl⟩
   ·right;exact⟨by rw[<- hbo,if_pos (by omega)];rfl,w3 h⟩
  clear w3 w4 hbo hlo2 w1
  have e1:wrap64 (-H)= -H:=wr64 (by omega) (by omega)
  have e0:wrap64 (bo:Int)=bo:=wr64 (by omega) (by omega)
  have e3: -H-(bo:Int)=(hi:Int):=by omega
  have e2:wrap64 (-H-(bo:Int))=(hi:Int):=by rw[e3];exact wr64 (by omega) (by omega)
  clear hb2 e3
  by_cases hup:n-r<=r
  ·have h5:(decide ((n:Int)-(r:Int)<=(r:Int)))=true:=decide_eq_true (by omega)
   have h6:=hup' hup
   obtain⟨Q,hQ⟩:∃ Q:Int,Q=(q:Int)+1:=⟨_,rfl⟩
   have k4:IntKind.u64.wrap ((q:Int)+1)=Q:=by rw[hQ];exact wuq1 q h6
   have k5:wrap64 Q=Q:=by rw[hQ];exact wrq1 q h6
   have k6:wrap64 (-Q)= -Q:=by rw[hQ];exact wrn1 q h6
   rw[if_pos hup]
   rw[show (((q+1:Nat):Int))=Q from hQ.symm]
   clear hQ h6
   clear hup hup' hlt hll hrn hql hn
   go_enter Tryz.func208,Tryz.ntmps208
   go_wp2_with(first|(go_at_call 203;refine mB (HS.out _ bel) ?_;intro l2 q2)|(go_at_call 59;refine mB (HD.out _) ?_;intro l2 q2))
   all_goals go_returns
   all_goals exact⟨(by first|rfl|exact congrArg (fun z=>Ending.returned (Value.int .i64 z)) k6|exact congrArg (fun z=>Ending.returned (Value.int .i64 z)) k5),bel⟩
  ·have h5:(decide ((n:Int)-(r:Int)<=(r:Int)))=false:=decide_eq_false (by omega)
   have k5:wrap64 (q:Int)=(q:Int):=wrq q hql
   have k6:wrap64 (-(q:Int))= -(q:Int):=wrn q hql
   rw[if_neg hup]
   clear hup hup' hlt hll hrn hql hn
   go_enter Tryz.func208,Tryz.ntmps208
   go_wp2_with(first|(go_at_call 203;refine mB (HS.out _ bel) ?_;intro l2 q2)|(go_at_call 59;refine mB (HD.out _) ?_;intro l2 q2))
   all_goals go_returns
   all_goals exact⟨(by first|rfl|exact congrArg (fun z=>Ending.returned (Value.int .i64 z)) k6|exact congrArg (fun z=>Ending.returned (Value.int .i64 z)) k5),bel⟩
 ·rw[if_neg hneg]
  obtain⟨M,hMM⟩:∃ M:Nat,S.natAbs=M:=⟨_,rfl⟩
  have hSM:S=(M:Int):=by omega
  rw[hMM] at hhi hlo
  rw[hSM] at hH hy
  obtain⟨w1,w2⟩:=pos_words hH hy hhi hlo
  clear hMM hSM hH hy hhi hlo hneg
  subst w2
  subst w1
  have hsum:(decide ((hi:Int)<0))=false:=by simp
  by_cases hup:n-r<=r
  ·have h5:(decide ((n:Int)-(r:Int)<=(r:Int)))=true:=decide_eq_true (by omega)
   have h6:=hup' hup
   obtain⟨Q,hQ⟩:∃ Q:Int,Q=(q:Int)+1:=⟨_,rfl⟩
   have k4:IntKind.u64.wrap ((q:Int)+1)=Q:=by rw[hQ];exact wuq1 q h6
   have k5:wrap64 Q=Q:=by rw[hQ];exact wrq1 q h6
   have k6:wrap64 (-Q)= -Q:=by rw[hQ];exact wrn1 q h6
   rw[if_pos hup]
   rw[show (((q+1:Nat):Int))=Q from hQ.symm]
   clear hQ h6
   clear hup hup' hlt hll hrn hql hn
   go_enter Tryz.func208,Tryz.ntmps208
   go_wp2_with(first|(go_at_call 203;refine mB (HS.out _ bel) ?_;intro l2 q2)|(go_at_call 59;refine mB (HD.out _) ?_;intro l2 q2))
   all_goals go_returns
   all_goals exact⟨(by first|rfl|exact congrArg (fun z=>Ending.returned (Value.int .i64 z)) k6|exact congrArg (fun z=>Ending.returned (Value.int .i64 z)) k5),bel⟩
  ·have h5:(decide ((n:Int)-(r:Int)<=(r:Int)))=false:=decide_eq_false (by omega)
   have k5:wrap64 (q:Int)=(q:Int):=wrq q hql
   have k6:wrap64 (-(q:Int))= -(q:Int):=wrn q hql
   rw[if_neg hup]
   clear hup hup' hlt hll hrn hql hn
   go_enter Tryz.func208,Tryz.ntmps208
   go_wp2_with(first|(go_at_call 203;refine mB (HS.out _ bel) ?_;intro l2 q2)|(go_at_call 59;refine mB (HD.out _) ?_;intro l2 q2))
   all_goals go_returns
   all_goals exact⟨(by first|rfl|exact congrArg (fun z=>Ending.returned (Value.int .i64 z)) k6|exact congrArg (fun z=>Ending.returned (Value.int .i64 z)) k5),bel⟩
section
def SeqT {α:Type} (F:Fence) (n:Nat) (P:Program) (g:Nat) (lb:Array Value) (encs:α->Array Value) (Kp:World->World->Prop) (S:List α->Prop) (N:Nat) (w:World):Prop :=
 ∀ (l:Nat) (J:List α->World->Prop) (W:World),Below w.heap.size w W->(∀ s W W' row,J s W->W.grownBy W' row->(∀ r,row=some r->False)->J s W') ->
   (∀ pre x W1,J pre W1->pre.length<N->YieldAt F (n-1) P l (encs x) W1 fun e W'=>e=.returned (.bool true)/\J (pre++[x]) W'/\Kp W1 W') ->
   J [] W ->
   CallsIn F n P g (#[.func (.yield l) #[] #[]]++lb) W fun e W'=>(∃ v,e=.returned v)/\∃ xs,S xs/\J xs W'
def goesOnT {α:Type} (Kp:World->World->Prop) (I:List α->World->Prop) (xs:List α) (W:World):Exit->Act->World->Prop
 | .normal,_,W'=>KeepsOthers W W'/\Kp W W'/\I xs W'
 | _,_,_=>False
variable {F:Fence} {n:Nat} {P:Program}
theorem range_ownT {α:Type} {g:Operand} {ps:Array Tmp} {assign body:Code} {Q:Exit->Act->World->Prop} {a:Act} {w:World} {N:Nat}
  (hro:F.round=none) (h1:1<=n) {gf:Nat} {lb:Array Value} (hg:a.eval g=.func (.func gf) #[] lb) (hFg:F.fn gf) (eg:∀ args w,(callFunc gf args).run P w=.ok (.enter gf args) w)
  {encs:α->Array Value} {Kp:World->World->Prop} {S:List α->Prop} (hseq:SeqT F (n-1) P gf lb encs Kp S N w)
  (hKt:∀ {A B C:World},Kp A B->Kp B C->Kp A C) (hKb:∀ (W:World) (l:Nat) (o':Obj),w.heap.size<=l->Kp W (W.putObj l o')) (hps:∀ x,(encs x).size=ps.size)
  (I:List α->World->Prop) (hI:∀ s W W' row,I s W->W.grownBy W' row->(∀ r,row=some r->(w.heap.size<=r/\∃ o:Obj,W.heap[r]? =some o/\o.isCells=false))->I s W') (h0:I [] w) (a₁:α->Act)
  (hassign:∀ (l:Nat) (x:α) (W:World) (K:Act->World->Prop),K (a₁ x) W ->
   assign.wpIn (F.inRound l) (n-1-1) P (Exit.then K (fun _ _ _=>False)) { tmps:=(ps.zip (encs x)).foldl (fun t (p,v)=>t.setIfInBounds p v) a.tmps,defers:=[] } W)
  (hbody:∀ (l:Nat) (pre:List α) (x:α) (W:World),I pre W->pre.length<N->body.wpIn (F.inRound l) (n-1-1) P (goesOnT Kp I (pre++[x]) W) (a₁ x) W)
  (hdone:∀ (D:Nat) (xs:List α) (W:World),w.heap.size<=D->S xs->I xs W->W.heap[D]? =some (.deferred (some []))->Q .normal { a with defers:= { target:=.collected D,args:=#[] } ::a.defers } W) :
  (Code.rangeFunc g ps assign body).wpIn F n P Q a w:=by
 refine wpIn_rangeFunc ?_
 intro fn hfn
 rw[hro]
 obtain⟨rec,hrec⟩:∃ rec:LoopState->Option Code->Loop,rec=fun st pe=> { state:=st,pending:=pe,fn,tmps:=a.tmps,params:=ps,assign,body,defers:=w.heap.size } :=⟨_,rfl⟩
 obtain⟨W1,hW1⟩:∃ W1,(w.alloc (.deferred (some []))).alloc (.loop (rec .ready none))=W1:=⟨_,rfl⟩
 have hput:∀ {s:List α} {W:World} {l:Nat} {o:Obj} (o':Obj),I s W->w.heap.size<=l->W.heap[l]? =some o->o.isCells=false->I s (W.putObj l o'):=fun {s W l o} o' hs hB hl ho =>
  hI s W _ (some l) hs (grownBy_putObj' W l o') (fun r e=>by cases e;exact⟨hB,o,hl,ho⟩)
 have hal:∀ {s:List α} {W:World} (o:Obj),I s W->I s (W.alloc o):=fun {s W} o hs=>hI s W _ none hs (World.grownBy_alloc W o none) (fun r e=>by cases e)
 have hL1:W1.heap[w.heap.size+1]? =some (.loop (rec .ready none)):=by
  rw[<- hW1];have:=World.alloc_heap_new (w.alloc (.deferred (some []))) (.loop (rec .ready none));rwa[World.size_alloc] at this
 have hK1:W1.heap[w.heap.size]? =some (.deferred (some [])):=by
  rw[<- hW1];exact(Below.heap_alloc _ _ _ (by simp)).trans (World.alloc_heap_new w _)
 have hI1:I [] W1:=by rw[<- hW1];exact hal _ (hal _ h0)
 have hb1:Below w.heap.size w W1:=by
  rw[<- hW1];exact((Below.refl _ w).alloc (Nat.le_refl _) _).alloc (by simp) _
 refine⟨w.heap.size+1,[{ target:=.collected w.heap.size,args:=#[] }],W1,{ target:=.fn (.func gf) lb,args:=#[.func (.yield (w.heap.size+1)) #[] #[]] },W1,gf,
  #[.func (.yield (w.heap.size+1)) #[] #[]]++lb,W1,?_,?_,?_,?_,fun _=>h1,?_⟩
 ·rw[<- hW1,hrec];exact run_enterLoop_outer _ _ _ _ _
 ·simp only[resolve,hg]
  simp[go_sem]
 ·intro f' hf';simp[Target.leads] at hf';subst hf';exact hFg
 ·simp[invoke,go_sem,eg]
 ·have hkeep:∀ {A B:World} {row:Option Nat} {l:Nat} {o:Obj},w.heap.size<=l->A.grownBy B row->(∀ r,row=some r->False)->A.heap[l]? =some o->B.heap[l]? =some o:=fun {A B row l o} hl hg' hr ho =>
   (hg'.block l (Array.getElem?_eq_some_iff.1 ho).1 (fun e=>(hr l e.symm).elim)).trans ho
  refine(hseq (w.heap.size+1)
   (fun pre W=>I pre W/\W.heap[w.heap.size+1]? =some (.loop (rec .ready none))/\W.heap[w.heap.size]? =some (.deferred (some [])))
   W1 hb1
   (fun s A B row hs hg' hr=>⟨hI s A B row hs.1 hg' (fun r e=>(hr r e).elim),hkeep (by omega) hg' hr hs.2.1,hkeep (Nat.le_refl _) hg' hr hs.2.2⟩)
   ?_ ⟨hI1,hL1,hK1⟩).mono ?_
  ·rintro pre x W ⟨hi,hl,hk⟩ hlen
   have hlt:w.heap.size+1<W.heap.size:=(Array.getElem?_eq_some_iff.1 hl).1
   have hy:=run_yield (P:=P) (args:=encs x) hl (by rw[hrec];exact hps x)
   rw[hrec] at hy
   refine⟨fn,_,assign,body,hy,roundIn_of_wpIn hfn (hassign _ x W _ ⟨_,run_beginRound hl (by rw[hrec]),?_⟩)⟩
   have hl2:(W.putObj (w.heap.size+1) (.loop { rec .ready none with state:=.busy })).heap[w.heap.size+1]? =some (.loop { rec .ready none with state:=.busy }):=World.putObj_heap_same hlt
   have hk2:(W.putObj (w.heap.size+1) (.loop { rec .ready none with state:=.busy })).heap[w.heap.size]? =some (.deferred (some [])):=(World.putObj_heap_other (by omega)).trans hk
   have hw2:Kp W (W.putObj (w.heap.size+1) (.loop { rec .ready none with state:=.busy })):=hKb _ _ _ (by omega)
   refine wpIn_mono (hbody _ pre x _ (hput _ hi (by omega) hl rfl) hlen) ?_
   rintro e a3 W3 hp
   cases e with
   | normal =>
     obtain⟨hk3,hkp3,hi3⟩:=hp
     have hl3:=hk3.same _ _ hl2 rfl
     have hr:=run_endRound (P:=P) none hl3
     rw[hrec] at hr hl3
     refine⟨_,_,hr,rfl,⟨hput _ hi3 (by omega) hl3 rfl,?_,?_⟩,hKt (hKt hw2 hkp3) (hKb _ _ _ (by omega))⟩
     ·rw[hrec]
      exact World.putObj_heap_same (Array.getElem?_eq_some_iff.1 hl3).1
     ·exact(World.putObj_heap_other (by omega)).trans (hk3.same _ _ hk2 rfl)
   | ret=>exact hp.elim
   | exit id=>exact hp.elim
   | goto t=>exact hp.elim
   | panic ch=>exact hp.elim
   | outgrown=>exact hp.elim
  ·rintro e W2 ⟨⟨v,rfl⟩,xs,hS,hi,hl,hk⟩
   exact⟨none,_,by have:=run_endLoop (P:=P) hl (by rw[hrec];simp);rw[hrec] at this;exact this,hdone _ xs _ (Nat.le_refl _) hS (hput _ hi (by omega) hl rfl) ((World.putObj_heap_other (by omega)).trans hk)⟩
end
def Good (C:Prop) (v:V):Prop:=mayG v=true/\(C->v.code≠1)/\In63 v.num
theorem zero63:In63 0:=⟨by decide,by decide⟩
theorem zA1 {C p:Prop} [Decidable p] {a b:V} (h1:Good C a) (h2:Good C b):Good C (if p then a else b):=by
 split
 ·exact h1
 ·exact h2
theorem zAw (C:Prop) {x:Int} (h:Is64 x):Good C (numG x):=by
 unfold numG
 split
 ·exact⟨by decide +kernel,fun _=>by decide,by decide,by decide⟩
 ·rename_i h0
  refine⟨by simp[mayG,bareG,eqB,h0],fun _=>by simp,?_⟩
  unfold minI at h0
  unfold Is64 at h
  exact⟨by simp only;omega,by simp only;omega⟩
theorem zAP (C:Prop) {c:Int} (h:C->c≠1):Good C (errG c):=by
 refine⟨may_err c,fun hc=> ?_,zero63⟩
 have h1:=h hc
 unfold errG errC
 dsimp only
 split
 ·exact h1
 ·decide
theorem good_txt (C:Prop) (s:ByteArray):Good C (txtG s):=⟨by simp[mayG,bareG,eqB,txtG],fun _=>by simp[txtG],zero63⟩
theorem zBP (C:Prop) (b:Bool):Good C (zC1 b):=⟨may_truth b,fun _=>by simp[zC1],zero63⟩
theorem good_zero (C:Prop):Good C ⟨0,0,⟨#[]⟩,false,0⟩:=⟨by decide +kernel,fun _=>by decide,by decide,by decide⟩
def PB (p:Int×Int):Prop:=p.2≠1/\In63 p.1
theorem zAu {c:Int} (h:c≠1):PB (0,c):=⟨h,zero63⟩
theorem zAy {p:Prop} [Decidable p] {a b:Int×Int} (h1:PB a) (h2:PB b):PB (if p then a else b):=by
 split
 ·exact h1
 ·exact h2
theorem zBz (C:Prop) {p:Int×Int} (h:PB p):Good C (numC p):=by
 unfold numC
 split
 ·exact zAP C fun _=>h.1
 ·exact zAw C h.2.to64
theorem good_wholeX (C:Prop) (n:Nat) (low:Bool):Good C (wholeX n low):=by
 unfold wholeX
 split
 ·exact zAP C fun _=>by decide
 ·refine zAw C ?_
  unfold Is64
  split<;>omega
theorem zBL (C:Prop) (t:Int) (s:ByteArray):Good C (toldX t s):=by
 unfold toldX
 split
 ·exact zAP C fun _=>by decide
 ·exact good_txt C _
theorem sign_pb (n:Nat) (b:Bool):PB (signX n b):=by
 unfold signX
 split
 ·exact zAu (by decide)
 ·refine⟨by simp,?_⟩
  unfold In63
  split<;>(simp only;omega)
theorem add_pb (a b:Int):PB (addX a b):=by
 unfold addX
 split
 ·exact zAu (by decide)
 ·refine⟨by simp,?_⟩
  unfold In63
  simp only
  omega
theorem sub_pb (a b:Int):PB (subX a b):=zAy (zAu (by decide)) (add_pb _ _)
theorem mod_pb (a b:Int) (hb:In63 b):PB (modX a b):=by
 unfold modX
 refine zAy (zAu (by decide)) ?_
 by_cases h0:b=0
 ·rw[if_pos h0];exact zAu (by decide)
 ·rw[if_neg h0]
  have h1:=Int.natAbs_tmod a b
  have h2:=Nat.mod_lt a.natAbs (show 0<b.natAbs by omega)
  unfold In63 at hb
  refine⟨by simp,?_⟩
  unfold In63
  split
  ·rename_i h
   have h3:=h.2
   by_cases hb0:b<0<;>by_cases ht:a.tmod b<0<;>simp[hb0,ht] at h3<;>(simp only;omega)
  ·simp only
   omega
theorem mul_pb (a b:Int):PB (mulX a b):=zAy (zAu (by decide)) (zAy (zAu (by decide)) (sign_pb _ _))
theorem floor2_pb (x s:Int) (hs:In63 s):PB (zBJ x s):=zAy (zAu (by decide)) (zAy (zAu (mod_pb x s hs).1) (sub_pb _ _))
theorem ceil_pb (x s:Int) (hs:In63 s):PB (ceilX x s):=by
 have h:=floor2_pb (-x) s hs
 refine⟨h.1,?_⟩
 have h1:=h.2
 unfold In63 at h1 ⊢
 unfold ceilX
 simp only
 omega
theorem floor_pb (x:Int):PB (floorX x):=zAy (zAu (mod_pb x 10000 ⟨by decide,by decide⟩).1) (sub_pb _ _)
theorem round_pb (x p:Int) (hx:In63 x):PB (roundX x p):=by
 unfold roundX roundN
 exact zAy (zAu (by decide)) (zAy ⟨by simp,hx⟩ (zAy (zAu (by decide)) (zAy (zAu (by decide)) (sign_pb _ _))))
theorem pow_pb (x n:Int):PB (powX x n):=by
 unfold powX powE
 exact zAy (zAu (by decide)) (zAy (zAu (by decide)) (zAy ⟨by simp,by decide,by decide⟩ (zAy (zAu (by decide)) (zAy (zAu (by decide)) (sign_pb _ _)))))
theorem sqrt_pb (x:Int):PB (sqrtX x):=zAy (zAu (by decide)) (zAy (zAu (by decide)) ⟨by simp,by
 have h:=sq_lt (x.toNat*40000) 41 (by omega)
 unfold In63
 simp only
 omega⟩)
theorem trunc_pb (x n:Int) (hx:In63 x):PB (truncP x n):=by
 refine⟨by unfold truncP;simp,?_⟩
 unfold truncP truncX
 simp only
 split
 ·exact hx
 ·split
  ·exact⟨by decide,by decide⟩
  ·have h1:(x.tdiv (10 ^ (4-n).toNat)*10 ^ (4-n).toNat).natAbs<=x.natAbs:=by
    rw[Int.natAbs_mul,Int.natAbs_tdiv]
    exact Nat.div_mul_le_self _ _
   unfold In63 at hx ⊢
   omega
theorem good_places (C:Prop) (f:Int->Int->Int×Int) {x y:Int} (h:∀ y,PB (f x y)):Good C (zC8 f x y):=by
 unfold zC8
 split
 ·exact zBz C (h _)
 ·exact zAP C fun _=>by decide
theorem good_lcmGo (C:Prop):∀ (l:List Nat) (m:Nat),Good C (lcmGo l m)
 | [],m=>good_wholeX C m false
 | n::ns,m=>by
   unfold lcmGo
   split
   ·exact zAP C fun _=>by decide
   ·exact good_lcmGo C ns _
theorem in_getD {l:List Int} (h:∀ x∈l,In63 x) (i:Nat):In63 (l.getD i 0):=by
 rw[List.getD_eq_getElem?_getD]
 cases e:l[i]? with
 | none=>exact⟨by decide,by decide⟩
 | some v=>exact h v (List.mem_of_getElem? e)
theorem good_numDo (C:Prop) (s:ByteArray) (l:List Int) (hl:∀ x∈l,In63 x):Good C (numDo s l):=by
 have i0:=in_getD hl 0
 have i1:=in_getD hl 1
 have i2:=in_getD hl 2
 have h8:Good C (errG 8):=zAP C fun _=>by decide
 unfold numDo
 refine zA1 ?_ ?_
 ·unfold oddX;exact zA1 (zBP C _) h8
 refine zA1 ?_ ?_
 ·unfold clampX;exact zA1 h8 (zAw C (by unfold In63 at i0 i1 i2;unfold Is64;omega))
 refine zA1 ?_ ?_
 ·unfold factX;exact zA1 h8 (good_wholeX C _ _)
 refine zA1 ?_ ?_
 ·unfold lcmX;exact zA1 (zA1 (zAw C ⟨by decide,by decide⟩) (good_lcmGo C _ _)) h8
 refine zA1 ?_ ?_
 ·unfold gcdX;exact zA1 (good_wholeX C _ _) h8
 refine zA1 ?_ ?_
 ·exact zBz C (sqrt_pb _)
 refine zA1 ?_ ?_
 ·exact good_places C _ fun y=>pow_pb _ y
 refine zA1 ?_ ?_
 ·unfold quotX;exact zA1 (zAP C fun _=>by decide) (good_wholeX C _ _)
 refine zA1 ?_ ?_
 ·exact zBz C (mod_pb _ _ i1)
 refine zA1 ?_ ?_
 ·exact zBz C (ceil_pb _ _ i1)
 refine zA1 ?_ ?_
 ·exact zBz C (floor2_pb _ _ i1)
 refine zA1 ?_ ?_
 ·exact zA1 (good_places C _ fun y=>round_pb _ y i0) (zBz C (round_pb _ _ i0))
 refine zA1 ?_ ?_
 ·exact zA1 (good_places C _ fun y=>trunc_pb _ y i0) (zBz C (trunc_pb _ _ i0))
 refine zA1 ?_ ?_
 ·exact zBz C (floor_pb _)
 refine zA1 ?_ ?_
 ·unfold signV;refine zAw C ?_;unfold Is64;(repeat' split)<;>omega
 refine zA1 ?_ ?_
 ·exact zAw C (by unfold In63 at i0;unfold Is64;omega)
 exact h8
theorem zCJ {C:Prop} {v:V} (h:Good C v) (hC:C):(zA5 v).2≠1:=by
 unfold zA5
 rw[if_neg (by rw[h.1];decide)]
 repeat' split
 all_goals first|exact h.2.1 hC|simp
theorem asTxt_ne {C:Prop} {v:V} (h:Good C v) (hC:C):(zAR v).2≠1:=by
 unfold zAR
 rw[if_neg (by rw[h.1];decide)]
 repeat' split
 all_goals first|exact h.2.1 hC|simp
theorem asNum_in {C:Prop} {v:V} (h:Good C v):In63 (zA5 v).1:=by
 unfold zA5
 rw[if_neg (by rw[h.1];decide)]
 repeat' split
 all_goals first|exact h.2.2|exact zero63|exact⟨by decide,by decide⟩
theorem good_nums (C:Prop) (s:ByteArray) (vs:List V) (h:∀ v∈vs,Good C v):Good C (numsVals s vs):=by
 unfold numsVals
 split
 ·rename_i v hv
  exact h v (List.mem_of_find?_eq_some hv)
 ·split
  ·rename_i v hv
   exact zAP C fun hC=>zCJ (h v (List.mem_of_find?_eq_some hv)) hC
  ·exact good_numDo C _ _ fun x hx=>by
    obtain⟨v,hv,rfl⟩:=List.mem_map.1 hx
    exact asNum_in (h v hv)
theorem good_concat (C:Prop) (t:Nat):∀ (l:List ByteArray) (a:List UInt8),Good C (zBA t l a)
 | [],a=>zBL C _ _
 | s::r,a=>by
   unfold zBA
   split
   ·exact zAP C fun _=>by decide
   ·exact good_concat C t r _
theorem good_subst (C:Prop) (t:Nat) (x y:List UInt8):∀ (f:Nat) (l a:List UInt8),Good C (substGo t x y f l a)
 | 0,_,_=>zAP C fun _=>by decide
 | f+1,l,a=>by
   unfold substGo
   split
   ·exact zAP C fun _=>by decide
   ·split
    ·exact zBL C _ _
    ·split
     ·exact zAP C fun _=>by decide
     ·exact good_subst C t x y f _ _
theorem good_wholeT (C:Prop) (n:Int):Good C (wholeT n):=zAw C (by rw[IntKind.wrap_i64];unfold Is64;omega)
theorem parse_64 (s:ByteArray):Is64 (parseX s).1:=by
 have h0:Is64 0:=⟨by decide,by decide⟩
 unfold parseX parseL
 repeat' split
 all_goals first|exact h0|skip
 unfold readN
 repeat' split
 all_goals first|exact h0|exact(sign_pb _ _).2.to64
theorem good_textDo (C:Prop) (s:ByteArray) (t:Nat) (ss:List ByteArray) (ns:List Int):Good C (textDo s t ss ns):=by
 have h8:Good C (errG 8):=zAP C fun _=>by decide
 have h7:Good C (errG 7):=zAP C fun _=>by decide
 have h6:Good C (errG 6):=zAP C fun _=>by decide
 have h4:Good C (errG 4):=zAP C fun _=>by decide
 unfold textDo
 refine zA1 ?_ ?_
 ·unfold numTX;exact zA1 (zAw C (parse_64 _)) h4
 refine zA1 ?_ ?_
 ·exact zBL C _ _
 refine zA1 ?_ ?_
 ·exact zBP C _
 refine zA1 ?_ ?_
 ·unfold charX;exact zA1 h8 (zBL C _ _)
 refine zA1 ?_ ?_
 ·unfold ordX;exact zA1 h8 (good_wholeT C _)
 refine zA1 ?_ ?_
 ·exact good_concat C _ _ _
 refine zA1 ?_ ?_
 ·unfold substX;exact zA1 h8 (good_subst C _ _ _ _ _ _)
 refine zA1 ?_ ?_
 ·unfold placeX;exact zA1 h8 (zA1 h6 (zA1 h6 (good_wholeT C _)))
 refine zA1 ?_ ?_
 ·unfold reptX;exact zA1 h8 (zA1 (zBL C _ _) (zA1 h7 (zBL C _ _)))
 refine zA1 ?_ ?_
 ·exact zBL C _ _
 refine zA1 ?_ ?_
 ·exact zBL C _ _
 refine zA1 ?_ ?_
 ·exact zBL C _ _
 refine zA1 ?_ ?_
 ·unfold midX;exact zA1 h8 (zBL C _ _)
 refine zA1 ?_ ?_
 ·unfold rightX;exact zA1 h8 (zBL C _ _)
 refine zA1 ?_ ?_
 ·unfold leftX;exact zA1 h8 (zBL C _ _)
 refine zA1 ?_ ?_
 ·exact good_wholeT C _
 exact h8
theorem good_textsGo (C:Prop) (s:ByteArray) (t:Nat) (c:ByteArray):∀ (vs:List V) (j:Nat) (ss:List ByteArray) (ns:List Int),(∀ v∈vs,Good C v)->Good C (textsGo s t c vs j ss ns)
 | [],_,ss,ns,_=>good_textDo C s t ss ns
 | v::r,j,ss,ns,h=>by
   have h0:=h v (by simp)
   have h1:∀ u∈r,Good C u:=fun u hu=>h u (List.mem_cons_of_mem _ hu)
   unfold textsGo
   repeat' split
   ·exact good_textsGo C s t c r _ _ _ h1
   ·exact zAP C fun hC=>zCJ h0 hC
   ·exact zAP C fun _=>by decide
   ·exact good_textsGo C s t c r _ _ _ h1
theorem good_texts (C:Prop) (s:ByteArray) (t:Nat) (vs:List V) (h:∀ v∈vs,Good C v):Good C (zBd s t vs):=by
 unfold zBd
 split
 ·rename_i v hv
  exact h v (List.mem_of_find?_eq_some hv)
 ·split
  ·exact zAP C fun _=>by decide
  ·exact good_textsGo C s t _ vs 0 [] [] h
theorem asBool_ne {C:Prop} {v:V} (h:Good C v) (hC:C):(zAX v).2≠1:=zCJ h hC
theorem integer_ne {C:Prop} {v:V} (h:Good C v) (hC:C):(zAN v).2≠1:=by
 unfold zAN
 repeat' split
 ·exact zCJ h hC
 ·simp
 ·simp
theorem good_truths (C:Prop) (fy:Nat->Nat->Bool) (vs:List V) (h:∀ v∈vs,Good C v):Good C (zBM fy vs):=by
 unfold zBM
 split
 ·rename_i v hv
  exact h v (List.mem_of_find?_eq_some hv)
 ·split
  ·rename_i v hv
   exact zAP C fun hC=>asBool_ne (h v (List.mem_of_find?_eq_some hv)) hC
  ·exact zBP C _
theorem good_getD {C:Prop} {vs:List V} {d:V} (h:∀ v∈vs,Good C v) (hd:Good C d) (i:Nat):Good C (vs.getD i d):=by
 rw[List.getD_eq_getElem?_getD]
 cases e:vs[i]? with
 | none=>exact hd
 | some v=>exact h v (List.mem_of_getElem? e)
theorem good_ownDo (C:Prop) (s:ByteArray) (vs:List V) (h:∀ v∈vs,Good C v):Good C (ownDo s vs):=by
 have h8:Good C (errG 8):=zAP C fun _=>by decide
 have hv:=good_getD (C:=C) (vs:=vs) (d:=⟨0,0,⟨#[]⟩,false,0⟩) h (good_zero C) 0
 unfold ownDo
 refine zA1 ?_ ?_
 ·exact h8
 refine zA1 ?_ ?_
 ·unfold zC5
  split
  ·have h0:=h _ (List.mem_cons_self ..)
   exact zA1 (zAP C fun hC=>integer_ne h0 hC) (zA1 (good_getD (fun u hu=>h u (List.mem_cons_of_mem _ hu)) h8 _) (zAP C fun _=>by decide))
  ·exact h8
 refine zA1 ?_ ?_
 ·unfold faultG
  refine zAP C fun hC=> ?_
  repeat' split
  ·omega
  ·decide
  ·exact integer_ne hv hC
 refine zA1 ?_ ?_
 ·unfold errnoG
  by_cases h4:(vs.getD 0 ⟨0,0,⟨#[]⟩,false,0⟩).tag=4
  ·rw[if_pos h4]
   have h5:=may_fault hv.1 h4
   exact zAw C (by unfold Is64;omega)
  ·rw[if_neg h4];exact h8
 refine zA1 ?_ ?_
 ·unfold typeG;have h5:=may_tag hv.1;exact zAw C (by unfold Is64;omega)
 refine zA1 ?_ ?_
 ·exact zBP C _
 refine zA1 ?_ ?_
 ·exact zBP C _
 refine zA1 ?_ ?_
 ·exact zBP C _
 refine zA1 ?_ ?_
 ·exact zBP C _
 refine zA1 ?_ ?_
 ·exact zBP C _
 refine zA1 ?_ ?_
 ·unfold iferrG
  split
  ·exact zA1 (h _ (by simp)) (h _ (by simp))
  ·exact h8
 refine zA1 ?_ ?_
 ·exact good_truths C _ vs h
 refine zA1 ?_ ?_
 ·exact good_truths C _ vs h
 refine zA1 ?_ ?_
 ·exact good_truths C _ vs h
 refine zA1 ?_ ?_
 ·exact good_truths C _ vs h
 refine zA1 ?_ ?_
 ·unfold zB6
  split
  ·have h0:=h _ (List.mem_cons_self ..)
   refine zA1 (zAP C fun hC=>asBool_ne h0 hC) (zA1 (h _ (by simp)) ?_)
   split
   ·exact h _ (by simp)
   ·exact zBP C _
  ·exact h8
 exact h8
end Go.Proofs.YtppghgnhlgoagaaGreatDoor
