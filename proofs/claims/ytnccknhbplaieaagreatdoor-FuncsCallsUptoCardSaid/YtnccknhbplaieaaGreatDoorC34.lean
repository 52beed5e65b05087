/- Parts. -/
import Derived.Test.YtnccknhbplaieaaGreatDoorC33
import Derived.Tactics2
import Derived.Defers
import Derived.Laws.Pointers
import Derived.Laws.LoneSync
import Derived.RegionTactic
import Derived.RegionCalls
import Derived.ChangeAlike
set_option linter.all false
set_option maxRecDepth 100000
set_option maxHeartbeats 4000000
namespace Go.Proofs.YtnccknhbplaieaaGreatDoor
open Go Go.RowKit Go.Proofs.Tryz
open Go.World renaming cell?_setCell_other->Q3,cell?_of_block->Q4,cell?_setCell_same->Q7,frozen?_of_block->Q9,frozen?_setCell->QA,setCell->QB
open _root_.List renaming getElem?_eq_getElem->Q5,getD->QC
open _root_.Option renaming isSome_iff_exists->Q8
open _root_.Nat renaming zero_le->QD
open _root_.Bool renaming and_comm->QE
theorem o_disable (w:World):(callFunc 260 #[]).run prog w=.ok (.value (.tuple #[])) w:=run_call_mark0 func260 (by kernel_rfl) (by kernel_rfl) (by kernel_rfl) .disable (by kernel_rfl) w
theorem o_enable (w:World):(callFunc 262 #[]).run prog w=.ok (.value (.tuple #[])) w:=run_call_mark0 func262 (by kernel_rfl) (by kernel_rfl) (by kernel_rfl) .enable (by kernel_rfl) w
theorem o_acquire (a:Addr) (w:World):(callFunc 263 #[.pointer (some a)]).run prog w=.ok (.value (.tuple #[])) w:=run_call_marked func263 (by kernel_rfl) (by kernel_rfl) (by kernel_rfl) .acquire (by kernel_rfl) a w
theorem o_releaseMerge (a:Addr) (w:World):(callFunc 265 #[.pointer (some a)]).run prog w=.ok (.value (.tuple #[])) w:=run_call_marked func265 (by kernel_rfl) (by kernel_rfl) (by kernel_rfl) .releaseMerge (by kernel_rfl) a w
theorem o_store (a:Addr) (x:Value) (u:FrameMode) (w:World) (hc:w.cell? a=some x) (hz:w.frozen? a=false) :
  CallsD prog 129 #[.pointer (some a),.bool true] u w fun e u' w'=>u'=u/\(e=.returned (.tuple #[])/\w'=w.drew.setCell a (.int .u32 1)):=by
 have ha:w.drew.cell? a=some x:=by go_simp
 have hb:w.drew.frozen? a=false:=by go_simp
 have hst:=run_call_store (P:=prog) func173 (by kernel_rfl) (by kernel_rfl) (by kernel_rfl) (by kernel_rfl) (k:=.u32) (y:=1) ha hb
 go_enter_d func129,ntmps129
 go_wp2
 go_region_calls
 all_goals(go_end0;exact⟨rfl,rfl⟩)
theorem o_unlock (a:Addr) (u:FrameMode) (w:World) (hc:w.cell? a=some (.int .i32 1)) (hz:w.frozen? a=false) :
  CallsD prog 128 #[.pointer (some a)] u w fun e u' w'=>u'=u/\(e=.returned (.tuple #[])/\w'=w.setCell a (.int .i32 0)):=by
 have hd:=o_disable;have he:=o_enable;have hr:=o_releaseMerge;have ha:=run_call_add (P:=prog) func266 (by kernel_rfl) (by kernel_rfl) (by kernel_rfl) .i32 (by kernel_rfl) (y:= -1) (s:=0) hc hz (by simp[go_sem];rfl);have hcv:=run_convert_to_unsafe (P:=prog) (src:=224) (dst:=228) underlying224 underlying228 (by kernel_rfl) hc
 go_enter_d func128,ntmps128
 go_wp2;all_goals go_end0;all_goals go_wp2;all_goals go_end0;all_goals exact⟨rfl,rfl⟩
theorem o_lock (a:Addr) (w:World) (hc:w.cell? a=some (.int .i32 0)) (hz:w.frozen? a=false) :
  Calls prog 127 #[.pointer (some a)] w fun e w'=>e=.returned (.tuple #[])/\w'=w.setCell a (.int .i32 1):=by
 have hd:=o_disable;have he:=o_enable;have ha:=o_acquire;have hf:=run_call_cas_hit (P:=prog) func261 (by kernel_rfl) (by kernel_rfl) (by kernel_rfl) .i32 (by kernel_rfl) (y:=1) hc hz;have hb:(w.setCell a (.int .i32 1)).cell? a=some (.int .i32 1):=Q7 w a _ hc;have hcv:=run_convert_to_unsafe (P:=prog) (src:=224) (dst:=228) underlying224 underlying228 (by kernel_rfl) hb;go_enter func127,ntmps127;go_wp2;all_goals first|go_end0|(simp only[Exit.inBlock,Exit.then];refine bodyPost_ret (results_none rfl _ _ _) rfl ?_)|refine bodyPost_ret (results_none rfl _ _ _) rfl ?_
 all_goals go_wp2;all_goals go_end0;all_goals exact⟨rfl,rfl⟩
def Turn (b:Nat) (w w':World):Prop:=w'.os=w.os/\w'.tape=w.tape/\w'.output=w.output/\w.heap.size<=w'.heap.size/\∀ k,k<w.heap.size->k≠b->w'.heap[k]? =w.heap[k]?
theorem Turn.of_below {b:Nat} {w w':World} (h:Below w.heap.size w w'):Turn b w w':=⟨h.os,h.tape,h.output,h.size,fun k hk _=>h.block k hk⟩
theorem Turn.refl (b:Nat) (w:World):Turn b w w:=.of_below (.refl _ _)
theorem Turn.trans {b:Nat} {w w' w'':World} (h:Turn b w w') (k:Turn b w' w''):Turn b w w'' :=
 ⟨k.1.trans h.1,k.2.1.trans h.2.1,k.2.2.1.trans h.2.2.1,Nat.le_trans h.2.2.2.1 k.2.2.2.1,fun n hn hb=>(k.2.2.2.2 n (Nat.lt_of_lt_of_le hn h.2.2.2.1) hb).trans (h.2.2.2.2 n hn hb)⟩
theorem Turn.setCell {b:Nat} {a w:World} (h:Turn b a w) (i:Nat) (v:Value):Turn b a (w.setCell ⟨b,i,none⟩ v) :=
 h.trans ⟨rfl,rfl,rfl,by simp[QB],fun k _ hk=>by
   unfold QB;simp only[Array.getElem?_modify];rw[if_neg (fun e=>hk e.symm)]⟩
theorem Turn.drew {b:Nat} {a w:World} (h:Turn b a w):Turn b a w.drew:=h
theorem Turn.alloc {b:Nat} {a w:World} (h:Turn b a w) (o:Obj):Turn b a (w.alloc o):=h.trans (.of_below ((Below.refl _ _).alloc (Nat.le_refl _) _))
theorem cell_lt {w:World} {b i:Nat} {v:Value} (h:w.cell? ⟨b,i,none⟩=some v):b<w.heap.size:=by
 unfold World.cell? at h;by_cases hb:b<w.heap.size
 ·exact hb
 ·rw[Array.getElem?_eq_none (show w.heap.size<=(⟨b,i,none⟩:Addr).block by simpa using hb)] at h;cases h
theorem Turn.cell {b k i:Nat} {w w':World} {v:Value} (h:Turn b w w') (hk:k≠b) (hc:w.cell? ⟨k,i,none⟩=some v):w'.cell? ⟨k,i,none⟩=some v :=
 (Q4 (a:=⟨k,i,none⟩) (h.2.2.2.2 k (cell_lt hc) hk)).trans hc
theorem Turn.frozen {b k i:Nat} {w w':World} (h:Turn b w w') (hk:k≠b) (hlt:k<w.heap.size):w'.frozen? ⟨k,i,none⟩=w.frozen? ⟨k,i,none⟩ :=
 Q9 (a:=⟨k,i,none⟩) (h.2.2.2.2 k hlt hk)
def tame:Value->Bool
 | .int .u32 _=>false
 | .int .i32 _=>false
 | .map _=>false
 | _=>true
structure KeepsT (w w':World):Prop where
 cell:∀ b i v,tame v=true->w.cell? ⟨b,i,none⟩=some v->w'.cell? ⟨b,i,none⟩=some v
 one:∀ b,OneCell w b->OneCell w' b
theorem Keeps.tame {w w':World} (h:Keeps w w'):KeepsT w w':=⟨fun b i v _ hv=>h.cell b i v hv,h.one⟩
theorem KeepsT.trans {a b c:World} (h:KeepsT a b) (k:KeepsT b c):KeepsT a c:=⟨fun n i v ht hv=>k.cell n i v ht (h.cell n i v ht hv),fun b hb=>k.one b (h.one b hb)⟩
theorem one_setCell {w:World} {b n j:Nat} {x y:Value} (hc:w.cell? ⟨b,j,none⟩=some x) (h:OneCell w n):OneCell (w.setCell ⟨b,j,none⟩ y) n:=by
 refine⟨by simpa [QB] using h.1,fun i v hv=> ?_⟩;by_cases e:(⟨n,i,none⟩:Addr)=⟨b,j,none⟩
 ·cases e;exact h.2 _ _ hc
 ·rw[Q3 _ _ _ _ (fun h=>e (by first|exact h|exact h.symm))] at hv;exact h.2 i v hv
theorem keepsT_setCell {w:World} {b j:Nat} {x y:Value} (hc:w.cell? ⟨b,j,none⟩=some x) (hx:tame x=false):KeepsT w (w.setCell ⟨b,j,none⟩ y):=by
 refine⟨fun n i v ht hv=> ?_,fun n hn=>one_setCell hc hn⟩;by_cases e:(⟨n,i,none⟩:Addr)=⟨b,j,none⟩
 ·rw[e,hc] at hv;cases hv;rw[hx] at ht;cases ht
 ·rw[Q3 _ _ _ _ (fun h=>e (by first|exact h|exact h.symm))];exact hv
theorem DoOK.tame {w w':World} {f:Value} {d:Doer} (h:DoOK w f d) (hk:KeepsT w w'):DoOK w' f d:=by
 cases d with
 | plain k=>exact h
 | truths k=>obtain⟨p,h1,h2⟩:=h;exact⟨p,h1,hk.cell _ _ _ rfl h2⟩
 | tagged t=>obtain⟨p,h1,h2,h3⟩:=h;exact⟨p,h1,hk.cell _ _ _ rfl h2,hk.one _ h3⟩
theorem DoOK.is_tame {w:World} {f:Value} {d:Doer} (h:DoOK w f d):Proofs.YtnccknhbplaieaaGreatDoor.tame f=true:=by
 cases d with
 | plain k=>cases h;rfl
 | truths k=>obtain⟨p,h1,h2⟩:=h;cases h1;rfl
 | tagged t=>obtain⟨p,h1,h2⟩:=h;cases h1;rfl
theorem OwnE.tame {w w':World} {v:Value} {x y:Int} {d:Doer} (h:OwnE w v x y d) (hk:KeepsT w w'):OwnE w' v x y d:=by
 obtain⟨pl,pm,pd,f,e,h1,h2,h3,h4⟩:=h;exact⟨pl,pm,pd,f,e,hk.cell _ _ _ rfl h1,hk.cell _ _ _ rfl h2,hk.cell _ _ _ h4.is_tame h3,h4.tame hk⟩
theorem LayE.tame {w w':World} {v:Value} {s:ByteArray} {i:Nat} (h:LayE w v s i) (hk:KeepsT w w'):LayE w' v s i:=by
 obtain⟨pb,pn,e,h0,h1,h2,h3⟩:=h;exact⟨pb,pn,e,hk.cell _ _ _ rfl h0,hk.cell _ _ _ rfl h1,hk.cell _ _ _ rfl h2,hk.cell _ _ _ rfl h3⟩
theorem EntE.tame {w w':World} {v:Value} {s:ByteArray} (h:EntE w s v) (hk:KeepsT w w'):EntE w' s v:=by
 rcases h with ⟨x,y,d,e,h⟩|⟨i,e,h⟩
 ·exact .inl ⟨x,y,d,e,h.tame hk⟩
 ·exact .inr ⟨i,e,h.tame hk⟩
def zB8 (w:World) (m:Nat):Prop:=∃ L,w.heap[m]? =some (.map (ents L 0).toArray L.length)/\(∀ s v,getU s L=some v->EntE w s v)/\(∀ s,(getU s L).isSome=D1 50 s)/\(L.map (·.1)).Nodup
theorem zBG.map {w0 w:World} {m:Nat} (h:zBG w0 m (D1 50) w):zB8 w m:=by
 obtain⟨L,_,_,h3,h4,h5⟩:=h;exact⟨L,h3,h4,h5⟩
theorem zBG.since {w0 w:World} {m:Nat} {D:ByteArray->Bool} (h:zBG w0 m D w):Below w0.heap.size w0 w:=by
 obtain⟨L,h1,_⟩:=h;exact h1
theorem zB8.lt {w:World} {m:Nat} (h:zB8 w m):m<w.heap.size:=by
 obtain⟨L,h3,_⟩:=h;exact(Array.getElem?_eq_some_iff.1 h3).1
theorem zB8.kept {w w':World} {m:Nat} (h:zB8 w m) (hb:w'.heap[m]? =w.heap[m]?) (hk:KeepsT w w'):zB8 w' m:=by
 obtain⟨L,h3,h4,h5⟩:=h;exact⟨L,hb.trans h3,fun s v hv=>(h4 s v hv).tame hk,h5⟩
theorem zB8.below {w w':World} {m:Nat} (h:zB8 w m) (hb:Below w.heap.size w w'):zB8 w' m :=
 h.kept (hb.block m h.lt) (zAr hb).tame
theorem zB8.setCell {w:World} {m b j:Nat} {x y:Value} (h:zB8 w m) (hc:w.cell? ⟨b,j,none⟩=some x) (hx:Proofs.YtnccknhbplaieaaGreatDoor.tame x=false):zB8 (w.setCell ⟨b,j,none⟩ y) m:=by
 refine h.kept ?_ (keepsT_setCell hc hx);obtain⟨L,h3,h4,h5⟩:=h;by_cases e:b=m
 ·subst e;unfold World.cell? at hc;rw[h3] at hc;cases hc
 ·unfold QB;simp only[Array.getElem?_modify];rw[if_neg e]
theorem zB8.drew {w:World} {m:Nat} (h:zB8 w m):zB8 w.drew m:=h
def Laid (w:World) (b:Nat) (e:Ending) (w':World):Prop:=e=.returned (.tuple #[])/\(∃ m,w'.cell? ⟨b,3,none⟩=some (.map (some m))/\zB8 w' m)/\Turn b w w'/\(∀ i,i≠3->w'.cell? ⟨b,i,none⟩=w.cell? ⟨b,i,none⟩)/\∀ i,w'.frozen? ⟨b,i,none⟩=w.frozen? ⟨b,i,none⟩
theorem laid_of {w w1:World} {b m:Nat} {x:Value} (hc:w.cell? ⟨b,3,none⟩=some x) (hx:tame x=false) (hM:zBG w m (D1 50) w1):Laid w b (.returned (.tuple #[])) (w1.setCell ⟨b,3,none⟩ (.map (some m))):=by
 have hb:=hM.since;have ha:=cell_lt hc;have hd:w1.cell? ⟨b,3,none⟩=some x:=(Q4 (a:=⟨b,3,none⟩) (hb.block b ha)).trans hc;refine⟨rfl,⟨m,Q7 _ _ _ hd,hM.map.setCell hd hx⟩,(Turn.of_below hb).setCell _ _,fun i hi=> ?_,fun i=> ?_⟩
 ·exact(Q3 _ _ _ _ (by simp[Ne.symm hi])).trans (Q4 (a:=⟨b,i,none⟩) (hb.block b ha))
 ·rw[QA];exact Q9 (a:=⟨b,i,none⟩) (hb.block b ha)
theorem all_made (b pl:Nat) (x3:Value) (hx:tame x3=false) (w:World) (hp:w.cell? ⟨pl,0,none⟩=some (.pointer (some ⟨b,0,none⟩))) (h3:w.cell? ⟨b,3,none⟩=some x3) (f3:w.frozen? ⟨b,3,none⟩=false) :
  Calls prog 27 #[.pointer (some ⟨pl,0,none⟩)] w fun e w'=>Laid w b e w':=by
 have ha:=cell_lt h3;have hlp:=cell_lt hp;go_enter func27,ntmps27;go_wp2;go_region_with (first|(go_at_call 28;refine(funcs_made _).mono ?_;rintro e w1 ⟨m,rfl,hM⟩;obtain⟨l,n,rfl⟩:=zA0 hM.since))
 all_goals
  go_end0
  have e:more (w.setCell ⟨b,3,none⟩ (.map (some m))) l n=(more w.drew l n).setCell ⟨b,3,none⟩ (.map (some m)):=(more_setCell (w:=w.drew) ha).symm;rw[e];exact laid_of (w:=w.drew) h3 hx hM
theorem o_load (a:Addr) (d:Int) (w:World) (h0:w.cell? a=some (.int .u32 d)):Calls prog 71 #[.pointer (some a)] w fun e w'=>e=.returned (.bool (d != 0))/\w'=w:=by
 have hl:=run_call_load (P:=prog) func126 (by kernel_rfl) (by kernel_rfl) (by kernel_rfl) .u32 (by kernel_rfl) h0;go_enter func71,ntmps71;go_wp2;all_goals go_ret;all_goals exact⟨rfl,rfl⟩
def Ready (w:World) (b:Nat):Prop:=∃ d m,¬ d=0/\w.cell? ⟨b,0,none⟩=some (.int .u32 d)/\w.cell? ⟨b,3,none⟩=some (.map (some m))/\zB8 w m
theorem once_slow (b pl:Nat) (hpb:pl≠b) (x3:Value) (hx:tame x3=false) (w:World) (hp:w.cell? ⟨pl,0,none⟩=some (.pointer (some ⟨b,0,none⟩)))
  (h0:w.cell? ⟨b,0,none⟩=some (.int .u32 0)) (h1:w.cell? ⟨b,1,none⟩=some (.int .i32 0)) (h3:w.cell? ⟨b,3,none⟩=some x3)
  (f:∀ i,w.frozen? ⟨b,i,none⟩=false) :
  Calls prog 72 #[.pointer (some ⟨b,0,none⟩),.func (.func 27) #[] #[.pointer (some ⟨pl,0,none⟩)]] w fun e w'=>e=.returned (.tuple #[])/\Ready w' b/\Turn b w w':=by
 have f0:=f 0;have f1:=f 1;have f3:=f 3;have hj:(w.setCell ⟨b,1,none⟩ (.int .i32 1)).cell? ⟨pl,0,none⟩=some (.pointer (some ⟨b,0,none⟩)):=(Q3 _ ⟨b,1,none⟩ ⟨pl,0,none⟩ _ (by simp[hpb])).trans hp;have hh:(w.setCell ⟨b,1,none⟩ (.int .i32 1)).cell? ⟨b,3,none⟩=some x3:=(Q3 _ ⟨b,1,none⟩ ⟨b,3,none⟩ _ (by simp)).trans h3;have ha:(w.setCell ⟨b,1,none⟩ (.int .i32 1)).cell? ⟨b,0,none⟩=some (.int .u32 0):=(Q3 _ ⟨b,1,none⟩ ⟨b,0,none⟩ _ (by simp)).trans h0;have hf:(w.setCell ⟨b,1,none⟩ (.int .i32 1)).cell? ⟨b,1,none⟩=some (.int .i32 1):=Q7 w _ _ h1;have fz:∀ i,(w.setCell ⟨b,1,none⟩ (.int .i32 1)).frozen? ⟨b,i,none⟩=false:=fun i=>(QA _ _ _ _).trans (f i);have hi:Turn b w (w.setCell ⟨b,1,none⟩ (.int .i32 1)):=(Turn.refl b w).setCell 1 _;have hb:∀ (x:Bool) (w:World),(Op.unary .not (.bool x)).run prog w=.ok (.bool (!x)) w:=fun _ _=>rfl
 go_enter_defers func72,ntmps72
 go_wp2_with(first|(go_at_call 127;refine(o_lock ⟨b,1,none⟩ _ (by go_simp) (by go_simp)).mono ?_;rintro e w' ⟨rfl,rfl⟩)|(go_at_call 71;refine(o_load _ 0 _ ha).mono ?_;rintro e w' ⟨rfl,rfl⟩)|(go_at_call 27;refine(all_made b pl x3 hx _ hj hh (fz 3)).mono ?_;rintro e w1 ⟨rfl,⟨m,hm,hM⟩,hT,hc,hz⟩))
 have hd:w1.cell? ⟨b,0,none⟩=some (.int .u32 0):=(hc 0 (by simp)).trans ha;have hk:w1.cell? ⟨b,1,none⟩=some (.int .i32 1):=(hc 1 (by simp)).trans hf;have fz':∀ i,w1.frozen? ⟨b,i,none⟩=false:=fun i=>(hz i).trans (fz i);have hl:=hi.trans hT;clear hc hz hT hi fz f f0 f1 f3 ha hf hh hj h0 h1 h3 hp hb;refine leaves_cons (f:=129) (args:=#[.pointer (some ⟨b,0,none⟩),.bool true]) (by simp) (by simp[go_sem]) ?_;refine(o_store ⟨b,0,none⟩ (.int .u32 0) .returning _ hd (fz' 0)).mono ?_;rintro e u' w'' ⟨rfl,rfl,rfl⟩;refine leaves_cons (f:=128) (args:=#[.pointer (some ⟨b,1,none⟩)]) (by simp[settle]) (by simp[go_sem]) ?_;have hg:(w1.drew.setCell ⟨b,0,none⟩ (.int .u32 1)).cell? ⟨b,1,none⟩=some (.int .i32 1):=(Q3 _ ⟨b,0,none⟩ ⟨b,1,none⟩ _ (by simp)).trans hk;have f1d:(w1.drew.setCell ⟨b,0,none⟩ (.int .u32 1)).frozen? ⟨b,1,none⟩=false:=(QA _ _ _ _).trans (fz' 1);refine(o_unlock ⟨b,1,none⟩ _ _ hg f1d).mono ?_;rintro e u' w'' ⟨rfl,rfl,rfl⟩;have he:w1.drew.cell? ⟨b,0,none⟩=some (.int .u32 0):=hd;have hR:Ready ((w1.drew.setCell ⟨b,0,none⟩ (.int .u32 1)).setCell ⟨b,1,none⟩ (.int .i32 0)) b :=
  ⟨1,m,by simp,(Q3 _ ⟨b,1,none⟩ ⟨b,0,none⟩ _ (by simp)).trans (Q7 _ _ _ he),
   (Q3 _ ⟨b,1,none⟩ ⟨b,3,none⟩ _ (by simp)).trans ((Q3 _ ⟨b,0,none⟩ ⟨b,3,none⟩ _ (by simp)).trans hm),
   (hM.drew.setCell he rfl).setCell hg rfl⟩
 simp[Leaves,settle,results,results72];exact⟨hR,(hl.drew.setCell 0 _).setCell 1 _⟩
theorem once_first (b pl:Nat) (hpb:pl≠b) (x3:Value) (hx:tame x3=false) (w:World) (hp:w.cell? ⟨pl,0,none⟩=some (.pointer (some ⟨b,0,none⟩)))
  (h0:w.cell? ⟨b,0,none⟩=some (.int .u32 0)) (h1:w.cell? ⟨b,1,none⟩=some (.int .i32 0)) (h3:w.cell? ⟨b,3,none⟩=some x3)
  (f:∀ i,w.frozen? ⟨b,i,none⟩=false) :
  Calls prog 26 #[.pointer (some ⟨b,0,none⟩),.func (.func 27) #[] #[.pointer (some ⟨pl,0,none⟩)]] w fun e w'=>e=.returned (.tuple #[])/\Ready w' b/\Turn b w w':=by
 have ha:∀ (x:Bool) (w:World),(Op.unary .not (.bool x)).run prog w=.ok (.bool (!x)) w:=fun _ _=>rfl;go_enter func26,ntmps26;go_wp2_with(first|(go_at_call 71;refine(o_load _ 0 _ h0).mono ?_;rintro e w' ⟨rfl,rfl⟩)|(go_at_call 72;refine(once_slow b pl hpb x3 hx _ hp h0 h1 h3 f).mono ?_;rintro e w1 ⟨rfl,hR,hT⟩))
 go_end0
 exact⟨rfl,hR,hT⟩
theorem once_done (a:Addr) (d:Int) (hd: ¬ d=0) (fv:Value) (w:World) (h0:w.cell? a=some (.int .u32 d)) :
  Calls prog 26 #[.pointer (some a),fv] w fun e w'=>e=.returned (.tuple #[])/\w'=w:=by
 have ha:∀ (x:Bool) (w:World),(Op.unary .not (.bool x)).run prog w=.ok (.bool (!x)) w:=fun _ _=>rfl;have hd':(d != 0)=true:=by simp[hd]
 go_enter func26,ntmps26;go_wp2_with(go_at_call 71;refine(o_load _ d _ h0).mono ?_;rintro e w' ⟨rfl,rfl⟩)
 go_end0
 exact⟨rfl,rfl⟩
open Go.Lib renaming hid->zh
def Fresh (w:World) (b:Nat):Prop:=w.cell? ⟨b,0,none⟩=some (.int .u32 0)/\w.cell? ⟨b,1,none⟩=some (.int .i32 0)/\w.cell? ⟨b,3,none⟩=some (.map none)/\∀ i,w.frozen? ⟨b,i,none⟩=false
def TabOK (w:World) (b:Nat):Prop:=Ready w b∨Fresh w b
theorem Ready.lt {w:World} {b:Nat} (h:Ready w b):b<w.heap.size:=by
 obtain⟨d,m,_,h0,_⟩:=h;exact cell_lt h0
theorem TabOK.lt {w:World} {b:Nat} (h:TabOK w b):b<w.heap.size:=by
 rcases h with h|h
 ·exact h.lt
 ·exact cell_lt h.1
theorem Ready.below {w w':World} {b:Nat} (h:Ready w b) (hb:Below w.heap.size w w'):Ready w' b:=by
 have hl:=h.lt;obtain⟨d,m,h1,h2,h3,h4⟩:=h;exact⟨d,m,h1,(Q4 (a:=⟨b,0,none⟩) (hb.block b hl)).trans h2,(Q4 (a:=⟨b,3,none⟩) (hb.block b hl)).trans h3,h4.below hb⟩
theorem TabOK.below {w w':World} {b:Nat} (h:TabOK w b) (hb:Below w.heap.size w w'):TabOK w' b:=by
 rcases h with h|h
 ·exact .inl (h.below hb)
 ·have hl:=cell_lt h.1;refine .inr ⟨?_,?_,?_,fun i=> ?_⟩
  ·exact(Q4 (a:=⟨b,0,none⟩) (hb.block b hl)).trans h.1
  ·exact(Q4 (a:=⟨b,1,none⟩) (hb.block b hl)).trans h.2.1
  ·exact(Q4 (a:=⟨b,3,none⟩) (hb.block b hl)).trans h.2.2.1
  ·exact(Q9 (a:=⟨b,i,none⟩) (hb.block b hl)).trans (h.2.2.2 i)
theorem once_any (b pl:Nat) (hpb:pl≠b) (w:World) (h:TabOK w b) (hp:w.cell? ⟨pl,0,none⟩=some (.pointer (some ⟨b,0,none⟩))) :
  Calls prog 26 #[.pointer (some ⟨b,0,none⟩),.func (.func 27) #[] #[.pointer (some ⟨pl,0,none⟩)]] w fun e w'=>e=.returned (.tuple #[])/\Ready w' b/\Turn b w w':=by
 rcases h with h|⟨h0,h1,h3,f⟩
 ·have hr:=h;obtain⟨d,m,hd,h0,_⟩:=h;exact(once_done ⟨b,0,none⟩ d hd _ w h0).mono fun e w' ⟨e1,e2⟩=>by subst e2;exact⟨e1,hr,Turn.refl _ _⟩
 ·exact once_first b pl hpb (.map none) rfl w hp h0 h1 h3 f
theorem table_all (b:Nat) (w:World) (h:TabOK w b):Calls prog 11 #[.pointer (some ⟨b,0,none⟩)] w fun e w'=>(∃ m,e=.returned (.map (some m))/\zB8 w' m)/\Ready w' b/\Turn b w w':=by
 have hmf:∀ (fn:Fn) (first cap:Array Value) (w:World),(Instr.makeFunc fn first cap).run prog w=.ok (.func fn first cap) w:=fun _ _ _ _=>rfl;have hlt:=h.lt;have ha:∀ o,Below w.heap.size w (w.alloc o):=fun o=>(Below.refl _ _).alloc (Nat.le_refl _) o;have hc:∀ o,TabOK (w.alloc o) b:=fun o=>h.below (ha o);have hb:w.heap.size≠b:=by omega
 go_enter func11,ntmps11;go_wp2_with(go_at_call 26;refine(once_any b w.heap.size hb _ (hc _) (by go_simp)).mono ?_;rintro e w1 ⟨rfl,⟨d,m,hd,h0,h3,hM⟩,hT⟩;have hp:=hT.cell hb (v:=.pointer (some ⟨b,0,none⟩)) (i:=0) (by go_simp);replace hT:=(Turn.of_below (ha _)).trans hT)
 all_goals go_ret;all_goals exact⟨⟨m,rfl,hM⟩,⟨d,m,hd,h0,h3,hM⟩,hT⟩
section
variable {ops:Array Oper} {rest:List Oper} {o:Oper} {a:Act} {Q:Exit->Act->World->Prop}
theorem wpList_lookI {w:World} {m:Nat} (h:zB8 w m) (mm x:Operand) (hg:o.guard=none) (hop:o.op=Op.lookup 44 mm x true) (hm:a.eval mm=.map (some m)) (s:ByteArray) (hx:a.eval x=.string s)
  (hY:∀ (fn:Fn) (first cap:Array Value) (fn1:Fn) (first1 cap1:Array Value),RowKit.Hid (EntE w s (.agg #[.func fn first cap,.func fn1 first1 cap1])/\D1 50 s=true)->wpList prog ops Q rest (a.put o.dst (.tuple #[.agg #[.func fn first cap,.func fn1 first1 cap1],.bool true])) w)
  (hN:RowKit.Hid (D1 50 s=false)->wpList prog ops Q rest (a.put o.dst (.tuple #[.agg #[.nilFunc,.nilFunc],.bool false])) w):wpList prog ops Q (o::rest) a w:=by
 obtain⟨L,h3,h4,h5,_⟩:=h;have ha:m<w.heap.size:=(Array.getElem?_eq_some_iff.1 h3).1;have e:=setMap_self h3;have:=wpList_look0 (P:=prog) (ops:=ops) (rest:=rest) (o:=o) (a:=a) (Q:=Q) hg 44 mm x hop 9 58 underlying9 underlying44 (.agg #[.nilFunc,.nilFunc]) (fun w=>by kernel_rfl) w m L hm ha s hx;rw[e] at this;refine this (fun v hv=> ?_) (fun hv=> ?_)
 ·have hE:=h4 s v hv;have hD:D1 50 s=true:=by rw[<- h5 s,hv];rfl
  rcases hE with ⟨x,y,d,e1,e2⟩|⟨i,e1,e2⟩
  ·obtain⟨pl,pm,pd,f,ev,hr⟩:=e2;subst ev;exact hY _ _ _ _ _ _ (zh ⟨.inl ⟨x,y,d,e1,pl,pm,pd,f,rfl,hr⟩,hD⟩)
  ·obtain⟨pb,pn,ev,hr⟩:=e2;subst ev;exact hY _ _ _ _ _ _ (zh ⟨.inr ⟨i,e1,pb,pn,rfl,hr⟩,hD⟩)
 ·have hD:D1 50 s=false:=by rw[<- h5 s,hv];rfl
  exact hN (zh hD)
end
theorem singles1 (pl pm:Nat) (x y:Int) (A:Option Addr) (n c:Nat) (xs:List Bool) (w:World) (B:Nat) (h1:w.cell? ⟨pl,0,none⟩=some (.int .i64 x)) (h2:w.cell? ⟨pm,0,none⟩=some (.int .i64 y))
  (hr:Reads w B 1 A n (xs.map Value.bool)) (hm:n<=9223372036854775807) :
  Rt 175 #[.slice A n c,.pointer (some ⟨pl,0,none⟩),.pointer (some ⟨pm,0,none⟩)] w (.bool (between x y n&& !zAU xs)):=by
 by_cases hx:x<=n
 ·by_cases hy:n<=y
  ·have e:(between x y n&& !zAU xs)= !zAU xs:=by simp[between,hx,hy]
   rw[e];clear e;go_enter func175,ntmps175;go_wp2_with fail;refine(contains_bools A n c B xs _ (hr.keeps kps) hm).mono ?_;rintro e w1 ⟨rfl,rfl⟩;clear hr;go_wp2;all_goals go_ret;all_goals exact rb_
  ·have e:(between x y n&& !zAU xs)=false:=by simp[between,hy]
   rw[e];clear e hr;go_enter func175,ntmps175;go_wp2;all_goals go_ret;all_goals exact rb_
 ·have e:(between x y n&& !zAU xs)=false:=by simp[between,hx]
  rw[e];clear e hr;go_enter func175,ntmps175;go_wp2;all_goals go_ret;all_goals exact rb_
def layTakes (i:Nat) (s:ByteArray) (xs:List Bool):Bool:=if i=0 then zBB s xs else if i=1 then zAx s xs else zAy s xs
theorem made1 (pb pn i:Nat) (s:ByteArray) (A:Option Addr) (n c:Nat) (xs:List Bool) (w:World) (B:Nat) (h1:w.cell? ⟨pb,1,none⟩=some (.func (.func (layFn i 1)) #[] #[])) (h2:w.cell? ⟨pn,0,none⟩=some (.string s))
  (hr:Reads w B 1 A n (xs.map Value.bool)) (hm:n<=9223372036854775807) :
  Rt 83 #[.slice A n c,.pointer (some ⟨pb,0,none⟩),.pointer (some ⟨pn,0,none⟩)] w (.bool (layTakes i s xs)):=by
 by_cases i0:i=0
 focus
  subst i0;replace h1:w.cell? ⟨pb,1,none⟩=some (.func (.func 75) #[] #[]):=h1;go_enter func83,ntmps83;go_wp2_with fail;refine(nums_Takes s A n c xs _ B hr hm).mono ?_
 rotate_left
 by_cases i1:i=1
 focus
  subst i1;replace h1:w.cell? ⟨pb,1,none⟩=some (.func (.func 78) #[] #[]):=h1;go_enter func83,ntmps83;go_wp2_with fail;refine(texts_Takes s A n c xs _ B hr hm).mono ?_
 rotate_left
 focus
  have e:layTakes i s xs=zAy s xs:=by simp[layTakes,i0,i1]
  rw[e];have e2:layFn i 1=81:=by simp[layFn,i0,i1]
  rw[e2] at h1;clear e e2 i0 i1;go_enter func83,ntmps83;go_wp2_with fail;refine(aggs_Takes s A n c xs _ B hr hm).mono ?_
 all_goals
  rintro e w1 ⟨rfl,hb⟩;go_wp2;all_goals go_ret;all_goals exact⟨rfl,hb⟩
def zBK (s:ByteArray) (xs:List Bool):Bool:=match zAg s with
 | some (x,y,_)=>between x y xs.length&& !zAU xs
 | none=>match layOf s with
   | some i=>layTakes i s xs
   | none=>false
theorem ite_key {α:Type} {p:Prop} [Decidable p] {a r:α} {b:Option α} (h:(if p then some a else b)=some r):p∨b=some r:=by
 by_cases hp:p
 ·exact .inl hp
 ·rw[if_neg hp] at h;exact .inr h
theorem own_lay (s:ByteArray) {q:Int×Int×Doer} (h:zAg s=some q):layOf s=none:=by
 unfold zAg at h
 iterate 16
  rcases ite_key h with e|h
  ·subst e
   decide +kernel
 cases h
theorem lay_known (s:ByteArray) {i:Nat} (h:layOf s=some i):inFirst 50 s=true:=by
 unfold layOf at h;split at h
 ·rename_i hn;obtain⟨q,hn⟩:=Q8.1 hn;unfold zAd at hn
  iterate 16
   rcases ite_key hn with e|hn
   ·subst e
    decide +kernel
  cases hn
 ·split at h
  ·rename_i hn;obtain⟨q,hn⟩:=Q8.1 hn;unfold zAT at hn
   iterate 16
    rcases ite_key hn with e|hn
    ·subst e
     decide +kernel
   cases hn
  ·split at h
   ·rename_i hn;obtain⟨q,hn⟩:=Q8.1 hn;unfold zAV at hn
    iterate 18
     rcases ite_key hn with e|hn
     ·subst e
      decide +kernel
    cases hn
   ·cases h
theorem own_known (s:ByteArray) {q:Int×Int×Doer} (h:zAg s=some q):isOwn s=true:=by
 unfold zAg at h
 iterate 16
  rcases ite_key h with e|h
  ·subst e
   decide +kernel
 cases h
def Apart (b:Nat) (A:Option Addr) (n:Nat):Prop:=0<n->∀ p,A=some p->p.block≠b
theorem Reads.turn {w w':World} {b B size n:Nat} {A:Option Addr} {xs:List Value} (h:Reads w B size A n xs) (ha:Apart b A n) (ht:Turn b w w'):Reads w' B size A n xs :=
 ⟨h.1,fun hn=>by
  obtain⟨k,off,e,hb,hc⟩:=h.2 hn;exact⟨k,off,e,hb,fun j u hu=>ht.cell (ha hn _ e) (hc j u hu)⟩⟩
theorem table_New (w:World):Calls prog 4 #[] w fun e w'=>e=.returned (.pointer (some ⟨w.heap.size,0,none⟩))/\Fresh w' w.heap.size/\Below w.heap.size w w':=by
 go_enter func4,ntmps4;go_wp2;go_ret;refine⟨rfl,⟨?_,?_,?_,fun i=> ?_⟩,bel⟩;all_goals go_simp
theorem zAD {s:ByteArray} {l:Array UInt8} (h: ¬ (⟨l⟩:ByteArray)=s):(s.toList==l.toList)=false:=by
 rw[ByteArray.toList_eq,beq_eq_false_iff_ne];intro e;apply h;cases s;simp only[ByteArray.mk.injEq];exact(Array.toList_inj.1 e).symm
def zAh (s:ByteArray):Int×Int:=(zAd s).getD (0,-1)
def zAb (s:ByteArray):Int×Int×ByteArray:=match zAT s with
 | some (c,x)=>(x,c.size,c)
 | none=>(0,-1,⟨#[]⟩)
def zAi (s:ByteArray):ByteArray×Int×Int:=(zAV s).getD (⟨#[]⟩,0,-1)
def zB4 (s:ByteArray):Int×Int:=match zAg s with
 | some (x,y,_)=>(x,y)
 | none=>(0,-1)
theorem ref08_Wants (s:ByteArray) (w:World):Calls prog 34 #[.string s] w fun e w'=>e=.returned (.tuple #[.int .i64 (zAh s).1,.int .i64 (zAh s).2])/\w'=w:=by
 by_cases h0:(⟨#[79,68,68]⟩:ByteArray)=s
 subst h0;have e:zAh ⟨#[79,68,68]⟩=(1,1):=by decide +kernel
 rotate_left
 by_cases h1:(⟨#[67,76,65,77,80]⟩:ByteArray)=s
 subst h1;have e:zAh ⟨#[67,76,65,77,80]⟩=(3,3):=by decide +kernel
 rotate_left
 by_cases h2:(⟨#[70,65,67,84]⟩:ByteArray)=s
 subst h2;have e:zAh ⟨#[70,65,67,84]⟩=(1,1):=by decide +kernel
 rotate_left
 by_cases h3:(⟨#[76,67,77]⟩:ByteArray)=s
 subst h3;have e:zAh ⟨#[76,67,77]⟩=(1,16):=by decide +kernel
 rotate_left
 by_cases h4:(⟨#[71,67,68]⟩:ByteArray)=s
 subst h4;have e:zAh ⟨#[71,67,68]⟩=(1,16):=by decide +kernel
 rotate_left
 by_cases h5:(⟨#[83,81,82,84]⟩:ByteArray)=s
 subst h5;have e:zAh ⟨#[83,81,82,84]⟩=(1,1):=by decide +kernel
 rotate_left
 by_cases h6:(⟨#[80,79,87,69,82]⟩:ByteArray)=s
 subst h6;have e:zAh ⟨#[80,79,87,69,82]⟩=(2,2):=by decide +kernel
 rotate_left
 by_cases h7:(⟨#[81,85,79,84]⟩:ByteArray)=s
 subst h7;have e:zAh ⟨#[81,85,79,84]⟩=(2,2):=by decide +kernel
 rotate_left
 by_cases h8:(⟨#[77,79,68]⟩:ByteArray)=s
 subst h8;have e:zAh ⟨#[77,79,68]⟩=(2,2):=by decide +kernel
 rotate_left
 by_cases h9:(⟨#[67,69,73,76]⟩:ByteArray)=s
 subst h9;have e:zAh ⟨#[67,69,73,76]⟩=(2,2):=by decide +kernel
 rotate_left
 by_cases h10:(⟨#[70,76,79,79,82]⟩:ByteArray)=s
 subst h10;have e:zAh ⟨#[70,76,79,79,82]⟩=(2,2):=by decide +kernel
 rotate_left
 by_cases h11:(⟨#[82,79,85,78,68]⟩:ByteArray)=s
 subst h11;have e:zAh ⟨#[82,79,85,78,68]⟩=(1,2):=by decide +kernel
 rotate_left
 by_cases h12:(⟨#[84,82,85,78,67]⟩:ByteArray)=s
 subst h12;have e:zAh ⟨#[84,82,85,78,67]⟩=(1,2):=by decide +kernel
 rotate_left
 by_cases h13:(⟨#[73,78,84]⟩:ByteArray)=s
 subst h13;have e:zAh ⟨#[73,78,84]⟩=(1,1):=by decide +kernel
 rotate_left
 by_cases h14:(⟨#[83,73,71,78]⟩:ByteArray)=s
 subst h14;have e:zAh ⟨#[83,73,71,78]⟩=(1,1):=by decide +kernel
 rotate_left
 by_cases h15:(⟨#[65,66,83]⟩:ByteArray)=s
 subst h15;have e:zAh ⟨#[65,66,83]⟩=(1,1):=by decide +kernel
 rotate_left
 ·have e:zAh s=(0,-1):=by
   unfold zAh zAd;simp only[if_neg h0,if_neg h1,if_neg h2,if_neg h3,if_neg h4,if_neg h5,if_neg h6,if_neg h7,if_neg h8,if_neg h9,if_neg h10,if_neg h11,if_neg h12,if_neg h13,if_neg h14,if_neg h15];all_goals rfl
  rw[e];have k0:(s.toList==[79,68,68])=false:=zAD h0;have k1:(s.toList==[67,76,65,77,80])=false:=zAD h1;have k2:(s.toList==[70,65,67,84])=false:=zAD h2;have k3:(s.toList==[76,67,77])=false:=zAD h3;have k4:(s.toList==[71,67,68])=false:=zAD h4;have k5:(s.toList==[83,81,82,84])=false:=zAD h5;have k6:(s.toList==[80,79,87,69,82])=false:=zAD h6;have k7:(s.toList==[81,85,79,84])=false:=zAD h7;have k8:(s.toList==[77,79,68])=false:=zAD h8;have k9:(s.toList==[67,69,73,76])=false:=zAD h9;have k10:(s.toList==[70,76,79,79,82])=false:=zAD h10;have k11:(s.toList==[82,79,85,78,68])=false:=zAD h11;have k12:(s.toList==[84,82,85,78,67])=false:=zAD h12;have k13:(s.toList==[73,78,84])=false:=zAD h13;have k14:(s.toList==[83,73,71,78])=false:=zAD h14;have k15:(s.toList==[65,66,83])=false:=zAD h15;clear e h0 h1 h2 h3 h4 h5 h6 h7 h8 h9 h10 h11 h12 h13 h14 h15;go_enter func34,ntmps34;go_wp2
  go_ret2
  exact⟨rfl,rfl⟩
 all_goals
  rw[e];go_enter func34,ntmps34;go_wp2
  go_ret2
  exact⟨rfl,rfl⟩
theorem ref09_Wants (s:ByteArray) (w:World):Calls prog 42 #[.string s] w fun e w'=>e=.returned (.tuple #[.int .i64 (zAb s).1,.int .i64 (zAb s).2.1,.string (zAb s).2.2])/\w'=w:=by
 by_cases h0:(⟨#[78,85,77]⟩:ByteArray)=s
 subst h0;have e:zAb ⟨#[78,85,77]⟩=(1,1,⟨#[115]⟩):=by decide +kernel
 rotate_left
 by_cases h1:(⟨#[82,69,86]⟩:ByteArray)=s
 subst h1;have e:zAb ⟨#[82,69,86]⟩=(1,1,⟨#[115]⟩):=by decide +kernel
 rotate_left
 by_cases h2:(⟨#[69,88,65,67,84]⟩:ByteArray)=s
 subst h2;have e:zAb ⟨#[69,88,65,67,84]⟩=(2,2,⟨#[115,115]⟩):=by decide +kernel
 rotate_left
 by_cases h3:(⟨#[67,72,65,82]⟩:ByteArray)=s
 subst h3;have e:zAb ⟨#[67,72,65,82]⟩=(1,1,⟨#[110]⟩):=by decide +kernel
 rotate_left
 by_cases h4:(⟨#[79,82,68]⟩:ByteArray)=s
 subst h4;have e:zAb ⟨#[79,82,68]⟩=(1,1,⟨#[115]⟩):=by decide +kernel
 rotate_left
 by_cases h5:(⟨#[67,79,78,67,65,84]⟩:ByteArray)=s
 subst h5;have e:zAb ⟨#[67,79,78,67,65,84]⟩=(1,16,⟨#[115,115,115,115,115,115,115,115,115,115,115,115,115,115,115,115]⟩):=by decide +kernel
 rotate_left
 by_cases h6:(⟨#[83,85,66,83,84]⟩:ByteArray)=s
 subst h6;have e:zAb ⟨#[83,85,66,83,84]⟩=(3,3,⟨#[115,115,115]⟩):=by decide +kernel
 rotate_left
 by_cases h7:(⟨#[70,73,78,68]⟩:ByteArray)=s
 subst h7;have e:zAb ⟨#[70,73,78,68]⟩=(2,3,⟨#[115,115,110]⟩):=by decide +kernel
 rotate_left
 by_cases h8:(⟨#[82,69,80,84]⟩:ByteArray)=s
 subst h8;have e:zAb ⟨#[82,69,80,84]⟩=(2,2,⟨#[115,110]⟩):=by decide +kernel
 rotate_left
 by_cases h9:(⟨#[84,82,73,77]⟩:ByteArray)=s
 subst h9;have e:zAb ⟨#[84,82,73,77]⟩=(1,1,⟨#[115]⟩):=by decide +kernel
 rotate_left
 by_cases h10:(⟨#[76,79,87,69,82]⟩:ByteArray)=s
 subst h10;have e:zAb ⟨#[76,79,87,69,82]⟩=(1,1,⟨#[115]⟩):=by decide +kernel
 rotate_left
 by_cases h11:(⟨#[85,80,80,69,82]⟩:ByteArray)=s
 subst h11;have e:zAb ⟨#[85,80,80,69,82]⟩=(1,1,⟨#[115]⟩):=by decide +kernel
 rotate_left
 by_cases h12:(⟨#[77,73,68]⟩:ByteArray)=s
 subst h12;have e:zAb ⟨#[77,73,68]⟩=(3,3,⟨#[115,110,110]⟩):=by decide +kernel
 rotate_left
 by_cases h13:(⟨#[82,73,71,72,84]⟩:ByteArray)=s
 subst h13;have e:zAb ⟨#[82,73,71,72,84]⟩=(1,2,⟨#[115,110]⟩):=by decide +kernel
 rotate_left
 by_cases h14:(⟨#[76,69,70,84]⟩:ByteArray)=s
 subst h14;have e:zAb ⟨#[76,69,70,84]⟩=(1,2,⟨#[115,110]⟩):=by decide +kernel
 rotate_left
 by_cases h15:(⟨#[76,69,78]⟩:ByteArray)=s
 subst h15;have e:zAb ⟨#[76,69,78]⟩=(1,1,⟨#[115]⟩):=by decide +kernel
 rotate_left
 ·have e:zAb s=(0,-1,⟨#[]⟩):=by
   unfold zAb zAT;simp only[if_neg h0,if_neg h1,if_neg h2,if_neg h3,if_neg h4,if_neg h5,if_neg h6,if_neg h7,if_neg h8,if_neg h9,if_neg h10,if_neg h11,if_neg h12,if_neg h13,if_neg h14,if_neg h15];all_goals rfl
  rw[e];have k0:(s.toList==[78,85,77])=false:=zAD h0;have k1:(s.toList==[82,69,86])=false:=zAD h1;have k2:(s.toList==[69,88,65,67,84])=false:=zAD h2;have k3:(s.toList==[67,72,65,82])=false:=zAD h3;have k4:(s.toList==[79,82,68])=false:=zAD h4;have k5:(s.toList==[67,79,78,67,65,84])=false:=zAD h5;have k6:(s.toList==[83,85,66,83,84])=false:=zAD h6;have k7:(s.toList==[70,73,78,68])=false:=zAD h7;have k8:(s.toList==[82,69,80,84])=false:=zAD h8;have k9:(s.toList==[84,82,73,77])=false:=zAD h9;have k10:(s.toList==[76,79,87,69,82])=false:=zAD h10;have k11:(s.toList==[85,80,80,69,82])=false:=zAD h11;have k12:(s.toList==[77,73,68])=false:=zAD h12;have k13:(s.toList==[82,73,71,72,84])=false:=zAD h13;have k14:(s.toList==[76,69,70,84])=false:=zAD h14;have k15:(s.toList==[76,69,78])=false:=zAD h15;clear e h0 h1 h2 h3 h4 h5 h6 h7 h8 h9 h10 h11 h12 h13 h14 h15;go_enter func42,ntmps42;go_wp2;all_goals(go_returns;exact⟨rfl,rfl⟩)
 all_goals
  rw[e];go_enter func42,ntmps42;go_wp2;all_goals(go_returns;exact⟨rfl,rfl⟩)
theorem ref10_Wants (s:ByteArray) (w:World):Calls prog 52 #[.string s] w fun e w'=>e=.returned (.tuple #[.string (zAi s).1,.int .i64 (zAi s).2.1,.int .i64 (zAi s).2.2])/\w'=w:=by
 by_cases h0:(⟨#[67,79,76,83]⟩:ByteArray)=s
 subst h0;have e:zAi ⟨#[67,79,76,83]⟩=(⟨#[114]⟩,1,1):=by decide +kernel
 rotate_left
 by_cases h1:(⟨#[82,79,87,83]⟩:ByteArray)=s
 subst h1;have e:zAi ⟨#[82,79,87,83]⟩=(⟨#[114]⟩,1,1):=by decide +kernel
 rotate_left
 by_cases h2:(⟨#[74,79,73,78]⟩:ByteArray)=s
 subst h2;have e:zAi ⟨#[74,79,73,78]⟩=(⟨#[118,120]⟩,2,16):=by decide +kernel
 rotate_left
 by_cases h3:(⟨#[76,65,82,71,69]⟩:ByteArray)=s
 subst h3;have e:zAi ⟨#[76,65,82,71,69]⟩=(⟨#[114,118]⟩,2,2):=by decide +kernel
 rotate_left
 by_cases h4:(⟨#[73,78,68,69,88]⟩:ByteArray)=s
 subst h4;have e:zAi ⟨#[73,78,68,69,88]⟩=(⟨#[114,118,118]⟩,3,3):=by decide +kernel
 rotate_left
 by_cases h5:(⟨#[76,79,79,75,85,80]⟩:ByteArray)=s
 subst h5;have e:zAi ⟨#[76,79,79,75,85,80]⟩=(⟨#[118,114,114]⟩,3,3):=by decide +kernel
 rotate_left
 by_cases h6:(⟨#[77,65,84,67,72]⟩:ByteArray)=s
 subst h6;have e:zAi ⟨#[77,65,84,67,72]⟩=(⟨#[118,114]⟩,2,2):=by decide +kernel
 rotate_left
 by_cases h7:(⟨#[83,85,77,73,70]⟩:ByteArray)=s
 subst h7;have e:zAi ⟨#[83,85,77,73,70]⟩=(⟨#[114,118,114]⟩,3,3):=by decide +kernel
 rotate_left
 by_cases h8:(⟨#[67,79,85,78,84,73,70]⟩:ByteArray)=s
 subst h8;have e:zAi ⟨#[67,79,85,78,84,73,70]⟩=(⟨#[114,118]⟩,2,2):=by decide +kernel
 rotate_left
 by_cases h9:(⟨#[66,76,65,78,75,83]⟩:ByteArray)=s
 subst h9;have e:zAi ⟨#[66,76,65,78,75,83]⟩=(⟨#[114]⟩,1,1):=by decide +kernel
 rotate_left
 by_cases h10:(⟨#[67,79,85,78,84,65]⟩:ByteArray)=s
 subst h10;have e:zAi ⟨#[67,79,85,78,84,65]⟩=(⟨#[120]⟩,1,16):=by decide +kernel
 rotate_left
 by_cases h11:(⟨#[67,79,85,78,84]⟩:ByteArray)=s
 subst h11;have e:zAi ⟨#[67,79,85,78,84]⟩=(⟨#[120]⟩,1,16):=by decide +kernel
 rotate_left
 by_cases h12:(⟨#[77,69,68,73,65,78]⟩:ByteArray)=s
 subst h12;have e:zAi ⟨#[77,69,68,73,65,78]⟩=(⟨#[120]⟩,1,16):=by decide +kernel
 rotate_left
 by_cases h13:(⟨#[65,86,71]⟩:ByteArray)=s
 subst h13;have e:zAi ⟨#[65,86,71]⟩=(⟨#[120]⟩,1,16):=by decide +kernel
 rotate_left
 by_cases h14:(⟨#[77,65,88]⟩:ByteArray)=s
 subst h14;have e:zAi ⟨#[77,65,88]⟩=(⟨#[120]⟩,1,16):=by decide +kernel
 rotate_left
 by_cases h15:(⟨#[77,73,78]⟩:ByteArray)=s
 subst h15;have e:zAi ⟨#[77,73,78]⟩=(⟨#[120]⟩,1,16):=by decide +kernel
 rotate_left
 by_cases h16:(⟨#[80,82,79,68]⟩:ByteArray)=s
 subst h16;have e:zAi ⟨#[80,82,79,68]⟩=(⟨#[120]⟩,1,16):=by decide +kernel
 rotate_left
 by_cases h17:(⟨#[83,85,77]⟩:ByteArray)=s
 subst h17;have e:zAi ⟨#[83,85,77]⟩=(⟨#[120]⟩,1,16):=by decide +kernel
 rotate_left
 ·have e:zAi s=(⟨#[]⟩,0,-1):=by
   unfold zAi zAV;simp only[if_neg h0,if_neg h1,if_neg h2,if_neg h3,if_neg h4,if_neg h5,if_neg h6,if_neg h7,if_neg h8,if_neg h9,if_neg h10,if_neg h11,if_neg h12,if_neg h13,if_neg h14,if_neg h15,if_neg h16,if_neg h17];all_goals rfl
  rw[e];have k0:(s.toList==[67,79,76,83])=false:=zAD h0;have k1:(s.toList==[82,79,87,83])=false:=zAD h1;have k2:(s.toList==[74,79,73,78])=false:=zAD h2;have k3:(s.toList==[76,65,82,71,69])=false:=zAD h3;have k4:(s.toList==[73,78,68,69,88])=false:=zAD h4;have k5:(s.toList==[76,79,79,75,85,80])=false:=zAD h5;have k6:(s.toList==[77,65,84,67,72])=false:=zAD h6;have k7:(s.toList==[83,85,77,73,70])=false:=zAD h7;have k8:(s.toList==[67,79,85,78,84,73,70])=false:=zAD h8;have k9:(s.toList==[66,76,65,78,75,83])=false:=zAD h9;have k10:(s.toList==[67,79,85,78,84,65])=false:=zAD h10;have k11:(s.toList==[67,79,85,78,84])=false:=zAD h11;have k12:(s.toList==[77,69,68,73,65,78])=false:=zAD h12;have k13:(s.toList==[65,86,71])=false:=zAD h13;have k14:(s.toList==[77,65,88])=false:=zAD h14;have k15:(s.toList==[77,73,78])=false:=zAD h15;have k16:(s.toList==[80,82,79,68])=false:=zAD h16;have k17:(s.toList==[83,85,77])=false:=zAD h17;clear e h0 h1 h2 h3 h4 h5 h6 h7 h8 h9 h10 h11 h12 h13 h14 h15 h16 h17;go_enter func52,ntmps52;go_wp2;all_goals(go_returns;exact⟨rfl,rfl⟩)
 all_goals
  rw[e];go_enter func52,ntmps52;go_wp2;all_goals(go_returns;exact⟨rfl,rfl⟩)
theorem ref11_wants (s:ByteArray) (w:World):Calls prog 68 #[.string s] w fun e w'=>e=.returned (.tuple #[.int .i64 (zB4 s).1,.int .i64 (zB4 s).2])/\w'=w:=by
 by_cases h0:(⟨#[65,83,75]⟩:ByteArray)=s
 subst h0;have e:zB4 ⟨#[65,83,75]⟩=(1,1):=by decide +kernel
 rotate_left
 by_cases h1:(⟨#[67,72,79,79,83,69]⟩:ByteArray)=s
 subst h1;have e:zB4 ⟨#[67,72,79,79,83,69]⟩=(2,16):=by decide +kernel
 rotate_left
 by_cases h2:(⟨#[69,82,82]⟩:ByteArray)=s
 subst h2;have e:zB4 ⟨#[69,82,82]⟩=(1,1):=by decide +kernel
 rotate_left
 by_cases h3:(⟨#[69,82,82,78,79]⟩:ByteArray)=s
 subst h3;have e:zB4 ⟨#[69,82,82,78,79]⟩=(1,1):=by decide +kernel
 rotate_left
 by_cases h4:(⟨#[84,89,80,69]⟩:ByteArray)=s
 subst h4;have e:zB4 ⟨#[84,89,80,69]⟩=(1,1):=by decide +kernel
 rotate_left
 by_cases h5:(⟨#[73,83,66,79,79,76]⟩:ByteArray)=s
 subst h5;have e:zB4 ⟨#[73,83,66,79,79,76]⟩=(1,1):=by decide +kernel
 rotate_left
 by_cases h6:(⟨#[73,83,84,69,88,84]⟩:ByteArray)=s
 subst h6;have e:zB4 ⟨#[73,83,84,69,88,84]⟩=(1,1):=by decide +kernel
 rotate_left
 by_cases h7:(⟨#[73,83,78,85,77]⟩:ByteArray)=s
 subst h7;have e:zB4 ⟨#[73,83,78,85,77]⟩=(1,1):=by decide +kernel
 rotate_left
 by_cases h8:(⟨#[73,83,66,76,65,78,75]⟩:ByteArray)=s
 subst h8;have e:zB4 ⟨#[73,83,66,76,65,78,75]⟩=(1,1):=by decide +kernel
 rotate_left
 by_cases h9:(⟨#[73,83,69,82,82]⟩:ByteArray)=s
 subst h9;have e:zB4 ⟨#[73,83,69,82,82]⟩=(1,1):=by decide +kernel
 rotate_left
 by_cases h10:(⟨#[73,70,69,82,82]⟩:ByteArray)=s
 subst h10;have e:zB4 ⟨#[73,70,69,82,82]⟩=(2,2):=by decide +kernel
 rotate_left
 by_cases h11:(⟨#[78,79,84]⟩:ByteArray)=s
 subst h11;have e:zB4 ⟨#[78,79,84]⟩=(1,1):=by decide +kernel
 rotate_left
 by_cases h12:(⟨#[88,79,82]⟩:ByteArray)=s
 subst h12;have e:zB4 ⟨#[88,79,82]⟩=(1,16):=by decide +kernel
 rotate_left
 by_cases h13:(⟨#[79,82]⟩:ByteArray)=s
 subst h13;have e:zB4 ⟨#[79,82]⟩=(1,16):=by decide +kernel
 rotate_left
 by_cases h14:(⟨#[65,78,68]⟩:ByteArray)=s
 subst h14;have e:zB4 ⟨#[65,78,68]⟩=(1,16):=by decide +kernel
 rotate_left
 by_cases h15:(⟨#[73,70]⟩:ByteArray)=s
 subst h15;have e:zB4 ⟨#[73,70]⟩=(2,3):=by decide +kernel
 rotate_left
 ·have e:zB4 s=(0,-1):=by
   unfold zB4 zAg;simp only[if_neg h0,if_neg h1,if_neg h2,if_neg h3,if_neg h4,if_neg h5,if_neg h6,if_neg h7,if_neg h8,if_neg h9,if_neg h10,if_neg h11,if_neg h12,if_neg h13,if_neg h14,if_neg h15];all_goals rfl
  rw[e];have k0:(s.toList==[65,83,75])=false:=zAD h0;have k1:(s.toList==[67,72,79,79,83,69])=false:=zAD h1;have k2:(s.toList==[69,82,82])=false:=zAD h2;have k3:(s.toList==[69,82,82,78,79])=false:=zAD h3;have k4:(s.toList==[84,89,80,69])=false:=zAD h4;have k5:(s.toList==[73,83,66,79,79,76])=false:=zAD h5;have k6:(s.toList==[73,83,84,69,88,84])=false:=zAD h6;have k7:(s.toList==[73,83,78,85,77])=false:=zAD h7;have k8:(s.toList==[73,83,66,76,65,78,75])=false:=zAD h8;have k9:(s.toList==[73,83,69,82,82])=false:=zAD h9;have k10:(s.toList==[73,70,69,82,82])=false:=zAD h10;have k11:(s.toList==[78,79,84])=false:=zAD h11;have k12:(s.toList==[88,79,82])=false:=zAD h12;have k13:(s.toList==[79,82])=false:=zAD h13;have k14:(s.toList==[65,78,68])=false:=zAD h14;have k15:(s.toList==[73,70])=false:=zAD h15;clear e h0 h1 h2 h3 h4 h5 h6 h7 h8 h9 h10 h11 h12 h13 h14 h15;go_enter func68,ntmps68;go_wp2
  go_ret2
  exact⟨rfl,rfl⟩
 all_goals
  rw[e];go_enter func68,ntmps68;go_wp2
  go_ret2
  exact⟨rfl,rfl⟩
theorem ref08_Known (s:ByteArray) (w:World):Calls prog 14 #[.string s] w fun e w'=>e=.returned (.bool (decide (0<(zAh s).2)))/\w'=w:=by
 go_enter func14,ntmps14;go_wp2_with(go_at_call 34;refine(ref08_Wants s _).mono ?_;rintro e w1 ⟨rfl,rfl⟩)
 all_goals go_ret;all_goals exact⟨rfl,rfl⟩
theorem ref09_Known (s:ByteArray) (w:World):Calls prog 16 #[.string s] w fun e w'=>e=.returned (.bool (decide (0<(zAb s).2.1)))/\w'=w:=by
 go_enter func16,ntmps16;go_wp2_with(go_at_call 42;refine(ref09_Wants s _).mono ?_;rintro e w1 ⟨rfl,rfl⟩)
 all_goals go_ret;all_goals exact⟨rfl,rfl⟩
theorem ref10_Known (s:ByteArray) (w:World):Calls prog 18 #[.string s] w fun e w'=>e=.returned (.bool (decide (0<(zAi s).2.2)))/\w'=w:=by
 go_enter func18,ntmps18;go_wp2_with(go_at_call 52;refine(ref10_Wants s _).mono ?_;rintro e w1 ⟨rfl,rfl⟩)
 all_goals go_ret;all_goals exact⟨rfl,rfl⟩
def zBS (x y:Int) (n:Nat) (xs:List Bool):Bool:= !zAU xs&&between x y n
theorem rtakes_true {x y:Int} {n:Nat} {xs:List Bool} (h:zAU xs=true):zBS x y n xs=false:=by simp[zBS,h]
theorem rtakes_low {x y:Int} {n:Nat} {xs:List Bool} (h: ¬ x<=n):zBS x y n xs=false:=by simp[zBS,between,h]
theorem rtakes_high {x y:Int} {n:Nat} {xs:List Bool} (h: ¬ (n:Int)<=y):zBS x y n xs=false:=by simp[zBS,between,h]
theorem rtakes_yes {x y:Int} {n:Nat} {xs:List Bool} (h:zAU xs=false) (hx:x<=n) (hy:(n:Int)<=y):zBS x y n xs=true:=by simp[zBS,between,h,hx,hy]
theorem ref08_Takes (s:ByteArray) (A:Option Addr) (n c:Nat) (xs:List Bool) (w:World) (B:Nat) (hr:Reads w B 1 A n (xs.map Value.bool)) (hm:n<=9223372036854775807) :
  Calls prog 35 #[.string s,.slice A n c] w fun e w'=>e=.returned (.bool (zBS (zAh s).1 (zAh s).2 n xs))/\w'=w:=by
 have hb:xs.length=n:=by have:=hr.1;simpa using this
 have HL:=zh hb;have HC:RowKit.Hid (∀ k,k<n->∃ b off,A=some ⟨b,off,none⟩/\w.cell? ⟨b,off+k,none⟩=some (.bool (xs.getD k false))):=zh fun k hk=>by
  obtain⟨b,off,e,_,hc⟩:=hr.2 (by omega);exact⟨b,off,e,hc k _ (by simp[QC,Q5 (show k<xs.length by omega)])⟩
 clear hr hb;have hW:=fun w=>ref08_Wants s w;generalize (zAh s).1=x at hW ⊢;generalize (zAh s).2=y at hW ⊢;have HW:=zh hW;clear hW;go_enter func35,ntmps35;go_wp2_with(go_at_call 34;refine(HW.out _).mono ?_;rintro e w1 ⟨rfl,rfl⟩)
 go_loop [7] (fun t=>∃ k:Nat,k<=n/\t=.int .i64 k/\NoTrue xs k) (fun t=>n-(intOf t).toNat)
 case atStart=>exact⟨0,QD _,rfl,fun j hj=>by omega⟩
 case round =>
  obtain⟨k,hk,rfl,hd⟩:=hrel;by_cases hlt:k<n
  ·obtain⟨b,off,rfl,ha⟩:=HC.out k hlt;cases hv:xs.getD k false with
   | true =>
     rw[hv] at ha;have hh:=zh (hasTrue_of hv);clear hv;go_wp2;all_goals go_ret;all_goals exact⟨by rw[rtakes_true hh.out];rfl,rfl⟩
   | false =>
     rw[hv] at ha;have hh:=noTrue_step hd hv;clear hv hd;go_wp2;go_round;case rel=>exact⟨k+1,by omega,by go_num,hh⟩
     case measure=>simp[intOf];omega
  ·have hh:=zh (noTrue_end hd (HL.out.trans (by omega)));clear hd;by_cases hx:x<=n
   ·by_cases hy:n<=y
    ·go_wp2;all_goals go_ret;all_goals exact⟨by rw[rtakes_yes hh.out (by omega) (by omega)];rfl,rfl⟩
    ·go_wp2;all_goals go_ret;all_goals exact⟨by rw[rtakes_high (by omega)];rfl,rfl⟩
   ·go_wp2;all_goals go_ret;all_goals exact⟨by rw[rtakes_low (by omega)];rfl,rfl⟩
theorem ref09_Takes (s:ByteArray) (A:Option Addr) (n c:Nat) (xs:List Bool) (w:World) (B:Nat) (hr:Reads w B 1 A n (xs.map Value.bool)) (hm:n<=9223372036854775807) :
  Calls prog 43 #[.string s,.slice A n c] w fun e w'=>e=.returned (.bool (zBS (zAb s).1 (zAb s).2.1 n xs))/\w'=w:=by
 have hb:xs.length=n:=by have:=hr.1;simpa using this
 have HL:=zh hb;have HC:RowKit.Hid (∀ k,k<n->∃ b off,A=some ⟨b,off,none⟩/\w.cell? ⟨b,off+k,none⟩=some (.bool (xs.getD k false))):=zh fun k hk=>by
  obtain⟨b,off,e,_,hc⟩:=hr.2 (by omega);exact⟨b,off,e,hc k _ (by simp[QC,Q5 (show k<xs.length by omega)])⟩
 clear hr hb;have hW:=fun w=>ref09_Wants s w;generalize (zAb s).1=x at hW ⊢;generalize (zAb s).2.1=y at hW ⊢;have HW:=zh hW;clear hW;go_enter func43,ntmps43;go_wp2_with(go_at_call 42;refine(HW.out _).mono ?_;rintro e w1 ⟨rfl,rfl⟩)
 go_loop [8] (fun t=>∃ k:Nat,k<=n/\t=.int .i64 k/\NoTrue xs k) (fun t=>n-(intOf t).toNat)
 case atStart=>exact⟨0,QD _,rfl,fun j hj=>by omega⟩
 case round =>
  obtain⟨k,hk,rfl,hd⟩:=hrel;by_cases hlt:k<n
  ·obtain⟨b,off,rfl,ha⟩:=HC.out k hlt;cases hv:xs.getD k false with
   | true =>
     rw[hv] at ha;have hh:=zh (hasTrue_of hv);clear hv;go_wp2;all_goals go_ret;all_goals exact⟨by rw[rtakes_true hh.out];rfl,rfl⟩
   | false =>
     rw[hv] at ha;have hh:=noTrue_step hd hv;clear hv hd;go_wp2;go_round;case rel=>exact⟨k+1,by omega,by go_num,hh⟩
     case measure=>simp[intOf];omega
  ·have hh:=zh (noTrue_end hd (HL.out.trans (by omega)));clear hd;by_cases hx:x<=n
   ·by_cases hy:n<=y
    ·go_wp2;all_goals go_ret;all_goals exact⟨by rw[rtakes_yes hh.out (by omega) (by omega)];rfl,rfl⟩
    ·go_wp2;all_goals go_ret;all_goals exact⟨by rw[rtakes_high (by omega)];rfl,rfl⟩
   ·go_wp2;all_goals go_ret;all_goals exact⟨by rw[rtakes_low (by omega)];rfl,rfl⟩
theorem aggTab_kinds {s c:ByteArray} {x y:Int} (h:zAV s=some (c,x,y)):c.data.toList.all (fun b=>b==114 || b==118 || b==120)=true:=by
 unfold zAV at h
 iterate 18
  rcases ite_some h with e|h
  ·cases e;decide
 cases h
theorem kind_cases {s c:ByteArray} {x y:Int} (h:zAV s=some (c,x,y)) (k:Nat):kindAt c k=114∨kindAt c k=118∨kindAt c k=120:=by
 obtain⟨_,h2,_⟩:=aggTab_fit h;have ha:=aggTab_kinds h;rw[List.all_eq_true] at ha;unfold kindAt;have hs:min k (c.size-1)<c.data.toList.length:=by
  have:c.data.toList.length=c.size:=by simp
  omega
 have:=ha _ (List.getElem_mem hs);rw[QC,Q5 hs,Option.getD_some];simp only[Bool.or_eq_true,beq_iff_eq] at this;rcases this with (e|e)|e<;>rw[e]<;>simp
theorem ref10_loop (c:ByteArray) (x y:Int) (s:ByteArray) (A:Option Addr) (n cp:Nat) (xs:List Bool) (w:World) (B:Nat) (hr:Reads w B 1 A n (xs.map Value.bool)) (hm:n<=9223372036854775807)
  (h:zAV s=some (c,x,y)) (hx:x<=n) (hy:n<=y) (h0:0<n) (hcs:0<c.size) (hcm:c.size<=3) :
  Calls prog 53 #[.string s,.slice A n cp] w fun e w'=>e=.returned (.bool (zAo c xs n))/\w'=w:=by
 have hb:xs.length=n:=by have:=hr.1;simpa using this
 obtain⟨b,off,rfl,_,hc⟩:=hr.2 h0;have ha:∀ k,k<n->w.cell? ⟨b,off+k,none⟩=some (.bool (xs.getD k false)):=fun k hk=>hc k _ (by simp[QC,Q5 (show k<xs.length by omega)]);have hbw:b<w.heap.size:=World.block_lt_of_cell? w _ (ha 0 h0);have HC:=zh ha;have HL:=zh hb;have hh:=zh (kind_cases h);have hW:∀ w:World,Calls prog 52 #[.string s] w fun e w'=>e=.returned (.tuple #[.string c,.int .i64 x,.int .i64 y])/\w'=w:=fun w=>by
  have:=ref10_Wants s w;unfold zAi at this;rw[h] at this;exact this
 have HW:=zh hW;clear hc hr ha hb hW h;go_enter func53,ntmps53;go_wp2_with(go_at_call 52;refine(HW.out _).mono ?_;rintro e w1 ⟨rfl,rfl⟩)
 go_loop [8] (fun t=>∃ k:Nat,k<=n/\t=.int .i64 k/\zAo c xs k=true) (fun t=>n-(intOf t).toNat)
 case atStart=>exact⟨0,QD _,rfl,rfl⟩
 case round =>
  obtain⟨k,hk,rfl,hg⟩:=hrel;have HK:=zh hg;clear hg;by_cases hlt:k<n
  ·have ha:=HC.out k hlt;have hi:=hh.out k;obtain⟨v,hv⟩:∃ v,v=xs.getD k false:=⟨_,rfl⟩
   rw[<- hv] at ha;have HV:=zh hv;clear hv;obtain⟨q,hq⟩:∃ q:Int,q=kindAt c k:=⟨_,rfl⟩
   have hj:q=114∨q=118∨q=120:=by omega
   have hf:=zh (kind_val (c:=c) (xs:=xs) (k:=k) hq HV.out);have he:=zh (fun (h1: ¬ q=120) (h2:(!v==(q==114))=true)=>kind_bad (n:=n) hq HV.out hlt h1 h2);clear hi;have hix:∀ w:World,(Instr.index 9 (.string c) (.int .i64 (min (k:Int) ((c.size:Int)-1)))).run prog w=.ok (.int .u8 q) w:=fun w=>by
    rw[idx_string c _ (by omega) (by omega) w,hq];unfold kindAt;rw[show (min (k:Int) ((c.size:Int)-1)).toNat=min k (c.size-1) by omega]
   clear hq;rcases hj with rfl|rfl|rfl<;>cases v;all_goals
    go_wp2
    first
    | (go_ret;exact⟨by rw[he.out (by decide) (by decide)];rfl,rfl⟩)
    | (go_round
       case rel=>exact⟨k+1,by omega,by go_num,kind_step HK.out (by rw[hf.out];rfl)⟩
       case measure=>simp[intOf];omega)
  ·have hd:k=n:=by omega
   subst hd;go_wp2;all_goals go_ret;all_goals exact⟨by rw[HK.out];rfl,rfl⟩
theorem ref10_Takes (s:ByteArray) (A:Option Addr) (n cp:Nat) (xs:List Bool) (w:World) (B:Nat) (hr:Reads w B 1 A n (xs.map Value.bool)) (hm:n<=9223372036854775807) :
  Calls prog 53 #[.string s,.slice A n cp] w fun e w'=>e=.returned (.bool (zAy s xs))/\w'=w:=by
 have ha:xs.length=n:=by have:=hr.1;simpa using this
 have hW:=fun w=>ref10_Wants s w;rcases h:zAV s with _|q;have e:zAy s xs=false:=by simp[zAy,h]
 rw[e];have e2:zAi s=(⟨#[]⟩,0,-1):=by simp[zAi,h]
 rw[e2] at hW;have HW:=zh hW;have hd:decide ((n:Int)<0)=false:=by simp
 have hc:decide ((-1:Int)<n)=true:=by simp;omega
 clear hr ha hW e e2 h
 rotate_left
 obtain⟨c,x,y⟩:=q;obtain⟨f1,f2,f3⟩:=aggTab_fit h;have e:zAy s xs=((decide (x<=n)&&decide (n<=y))&&zAo c xs n):=by simp[zAy,h,ha]
 rw[e];clear ha e;by_cases hx:x<=n
 by_cases hy:n<=y
 ·have e:((decide (x<=n)&&decide (n<=y))&&zAo c xs n)=zAo c xs n:=by simp[hx,hy]
  rw[e];exact ref10_loop c x y s A n cp xs w B hr hm h hx hy (by omega) f2 f3
 have e:((decide (x<=n)&&decide (n<=y))&&zAo c xs n)=false:=by simp[hy]
 rw[e];have hb:decide ((n:Int)<x)=false:=by simpa using hx
 have hc:decide (y<n)=true:=by simpa using hy
 have e2:zAi s=(c,x,y):=by simp[zAi,h]
 rw[e2] at hW;have HW:=zh hW;clear e hr hx hy hW e2 h
 rotate_left
 have e:((decide (x<=n)&&decide (n<=y))&&zAo c xs n)=false:=by simp[hx]
 rw[e];have hb:decide ((n:Int)<x)=true:=by simpa using hx
 have e2:zAi s=(c,x,y):=by simp[zAi,h]
 rw[e2] at hW;have HW:=zh hW;clear e hr hx hW e2 h;all_goals
  go_enter func53,ntmps53;go_wp2_with(go_at_call 52;refine(HW.out _).mono ?_;rintro e w1 ⟨rfl,rfl⟩)
  all_goals go_ret;all_goals exact⟨rfl,rfl⟩
def tabRef (s:ByteArray) (n:Nat) (xs:List Bool):Bool :=
 if decide (0<(zAh s).2) then zBS (zAh s).1 (zAh s).2 n xs else
 if decide (0<(zAb s).2.1) then zBS (zAb s).1 (zAb s).2.1 n xs else
 if decide (0<(zAi s).2.2) then zAy s xs else zBS (zB4 s).1 (zB4 s).2 n xs
theorem ref11_Takes (s:ByteArray) (A:Option Addr) (n c:Nat) (xs:List Bool) (w:World) (B:Nat) (hr:Reads w B 1 A n (xs.map Value.bool)) (hm:n<=9223372036854775807) :
  Rt 21 #[.agg #[],.string s,.slice A n c] w (.bool (tabRef s n xs)):=by
 have hg:Keeps w (w.alloc (.cells #[] 66)):=kps;have hi:=fun w' (h:Keeps w w')=>hr.keeps h;have h8:=fun w=>ref08_Known s w;have h9:=fun w=>ref09_Known s w;have he:=fun w=>ref10_Known s w;have hW:=fun w=>ref11_wants s w;unfold tabRef;generalize decide (0<(zAh s).2)=k8 at h8 ⊢;generalize decide (0<(zAb s).2.1)=k9 at h9 ⊢;generalize decide (0<(zAi s).2.2)=k10 at he ⊢;have H8:=zh h8;have H9:=zh h9;have hf:=zh he;have HR:=zh hr;clear h8 h9 he hi hg;cases k8;cases k9;cases k10
 ·generalize (zB4 s).1=x at hW ⊢;generalize (zB4 s).2=y at hW ⊢;have HW:=zh hW;have hb:xs.length=n:=by have:=hr.1;simpa using this
  have HL:=zh hb;have HC:RowKit.Hid (∀ k,k<n->∃ b off,A=some ⟨b,off,none⟩/\b<w.heap.size/\w.cell? ⟨b,off+k,none⟩=some (.bool (xs.getD k false))):=zh fun k hk=>by
   obtain⟨b,off,e,_,hc⟩:=hr.2 (by omega);have h1:=hc k (.bool (xs.getD k false)) (by simp[QC,Q5 (show k<xs.length by omega)]);exact⟨b,off,e,cell_lt h1,h1⟩
  clear hr hb hW HR;go_enter func21,ntmps21;go_wp2_with(first|(go_at_call 14;refine(H8.out _).mono ?_;rintro e w1 ⟨rfl,rfl⟩)|(go_at_call 16;refine(H9.out _).mono ?_;rintro e w1 ⟨rfl,rfl⟩)|(go_at_call 18;refine(hf.out _).mono ?_;rintro e w1 ⟨rfl,rfl⟩))
  go_loop [7] (fun t=>∃ k:Nat,k<=n/\t=.int .i64 k/\NoTrue xs k) (fun t=>n-(intOf t).toNat)
  case atStart=>exact⟨0,QD _,rfl,fun j hj=>by omega⟩
  case round =>
   obtain⟨k,hk,rfl,hd⟩:=hrel;by_cases hlt:k<n
   ·obtain⟨b,off,rfl,hbl,ha⟩:=HC.out k hlt;cases hv:xs.getD k false with
    | true =>
      rw[hv] at ha;have hh:=zh (hasTrue_of hv);clear hv;go_wp2;all_goals go_ret;all_goals exact⟨by simp[rtakes_true hh.out],bel⟩
    | false =>
      rw[hv] at ha;have hh:=noTrue_step hd hv;clear hv hd;go_wp2;go_round;case rel=>exact⟨k+1,by omega,by go_num,hh⟩
      case measure=>simp[intOf];omega
   ·have hh:=zh (noTrue_end hd (HL.out.trans (by omega)));clear hd;by_cases hx:x<=n
    ·by_cases hy:n<=y
     ·go_wp2_with(go_at_call 68;refine(HW.out _).mono ?_;rintro e w1 ⟨rfl,rfl⟩)
      all_goals go_ret;all_goals exact⟨by rw[rtakes_yes hh.out (by omega) (by omega)];first|rfl|(simp;omega),bel⟩
     ·go_wp2_with(go_at_call 68;refine(HW.out _).mono ?_;rintro e w1 ⟨rfl,rfl⟩)
      all_goals go_ret;all_goals exact⟨by rw[rtakes_high (by omega)];first|rfl|(simp;omega),bel⟩
    ·go_wp2_with(go_at_call 68;refine(HW.out _).mono ?_;rintro e w1 ⟨rfl,rfl⟩)
     all_goals go_ret;all_goals exact⟨by rw[rtakes_low (by omega)];first|rfl|(simp;omega),bel⟩
 all_goals
  go_enter func21,ntmps21;go_wp2_with(first|(go_at_call 14;refine(H8.out _).mono ?_;rintro e w1 ⟨rfl,rfl⟩)|(go_at_call 16;refine(H9.out _).mono ?_;rintro e w1 ⟨rfl,rfl⟩)|(go_at_call 18;refine(hf.out _).mono ?_;rintro e w1 ⟨rfl,rfl⟩)|(go_at_call 53;refine(ref10_Takes s A n c xs _ B (HR.out.keeps kps) hm).mono ?_;rintro e w1 ⟨rfl,rfl⟩)|(go_at_call 43;refine(ref09_Takes s A n c xs _ B (HR.out.keeps kps) hm).mono ?_;rintro e w1 ⟨rfl,rfl⟩)|(go_at_call 35;refine(ref08_Takes s A n c xs _ B (HR.out.keeps kps) hm).mono ?_;rintro e w1 ⟨rfl,rfl⟩))
  all_goals go_ret;all_goals exact rb_
theorem numTab_pos {s:ByteArray} {x y:Int} (h:zAd s=some (x,y)):0<y:=by
 unfold zAd at h
 iterate 16
  rcases ite_some h with e|h
  ·cases e;decide
 cases h
theorem textTab_pos {s c:ByteArray} {x:Int} (h:zAT s=some (c,x)):(0:Int)<c.size:=by
 unfold zAT at h
 iterate 16
  rcases ite_some h with e|h
  ·cases e;decide
 cases h
theorem aggTab_pos {s c:ByteArray} {x y:Int} (h:zAV s=some (c,x,y)):0<y:=by
 unfold zAV at h
 iterate 18
  rcases ite_some h with e|h
  ·cases e;decide
 cases h
theorem k8_eq (s:ByteArray):decide (0<(zAh s).2)=(zAd s).isSome:=by
 unfold zAh;cases h:zAd s with
 | none=>rfl
 | some q=>simpa using numTab_pos h
theorem k9_eq (s:ByteArray):decide (0<(zAb s).2.1)=(zAT s).isSome:=by
 unfold zAb;cases h:zAT s with
 | none=>rfl
 | some q=>simpa using textTab_pos h
theorem k10_eq (s:ByteArray):decide (0<(zAi s).2.2)=(zAV s).isSome:=by
 unfold zAi;cases h:zAV s with
 | none=>rfl
 | some q=>simpa using aggTab_pos h
theorem takes_law (s:ByteArray) (n:Nat) (xs:List Bool) (hn:xs.length=n):zBK s xs=tabRef s n xs:=by
 subst hn;unfold tabRef zBK;rw[k8_eq,k9_eq,k10_eq];cases ho:zAg s with
 | some q =>
   obtain⟨x,y,d⟩:=q;have hl:=own_lay s ho;unfold layOf at hl;have h8:(zAd s).isSome=false:=by cases h:(zAd s).isSome<;>simp[h] at hl ⊢
   have h9:(zAT s).isSome=false:=by cases h:(zAT s).isSome<;>simp[h,h8] at hl ⊢
   have ha:(zAV s).isSome=false:=by cases h:(zAV s).isSome<;>simp[h,h8,h9] at hl ⊢
   simp[h8,h9,ha,zB4,ho,zBS,QE]
 | none =>
   unfold layOf;cases h8:zAd s with
   | some q=>obtain⟨x,y⟩:=q;simp[layTakes,zBB,h8,zAh,zBS,QE]
   | none =>
     cases h9:zAT s with
     | some q=>obtain⟨c,x⟩:=q;simp[layTakes,zAx,h9,zAb,zBS,QE]
     | none =>
       cases ha:zAV s with
       | some q=>simp[layTakes]
       | none=>simp[zB4,ho,zBS,between];omega
end Go.Proofs.YtnccknhbplaieaaGreatDoor
