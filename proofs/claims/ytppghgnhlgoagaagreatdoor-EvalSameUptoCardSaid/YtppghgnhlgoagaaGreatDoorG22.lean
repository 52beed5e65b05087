/- Parts. -/
import Derived.Test.YtppghgnhlgoagaaGreatDoorG21
import Derived.Tactics2
import Derived.Defers
import Derived.Laws.Pointers
import Derived.Laws.LoneSync
import Derived.RegionTactic
import Derived.RegionCalls
import Derived.ChangeAlike
set_option linter.all false
set_option maxRecDepth 100000
set_option maxHeartbeats 4000000
namespace Go.Proofs.YtppghgnhlgoagaaGreatDoor
open Go Go.RowKit
theorem o_disable (w:World):(callFunc 233 #[]).run Tryz.prog w=.ok (.value (.tuple #[])) w:=run_call_mark0 Tryz.func233 (by kernel_rfl) (by kernel_rfl) (by kernel_rfl) .disable (by kernel_rfl) w
theorem o_enable (w:World):(callFunc 235 #[]).run Tryz.prog w=.ok (.value (.tuple #[])) w:=run_call_mark0 Tryz.func235 (by kernel_rfl) (by kernel_rfl) (by kernel_rfl) .enable (by kernel_rfl) w
theorem o_acquire (a:Addr) (w:World):(callFunc 236 #[.pointer (some a)]).run Tryz.prog w=.ok (.value (.tuple #[])) w:=run_call_marked Tryz.func236 (by kernel_rfl) (by kernel_rfl) (by kernel_rfl) .acquire (by kernel_rfl) a w
theorem o_releaseMerge (a:Addr) (w:World):(callFunc 238 #[.pointer (some a)]).run Tryz.prog w=.ok (.value (.tuple #[])) w:=run_call_marked Tryz.func238 (by kernel_rfl) (by kernel_rfl) (by kernel_rfl) .releaseMerge (by kernel_rfl) a w
theorem o_store (a:Addr) (x:Value) (u:FrameMode) (w:World) (hc:w.cell? a=some x) (hz:w.frozen? a=false) :
  CallsD Tryz.prog 114 #[.pointer (some a),.bool true] u w fun e u' w'=>u'=u/\(e=.returned (.tuple #[])/\w'=w.drew.setCell a (.int .u32 1)):=by
 have hc':w.drew.cell? a=some x:=by go_simp
 have hz':w.drew.frozen? a=false:=by go_simp
 have hst:=run_call_store (P:=Tryz.prog) Tryz.func147 (by kernel_rfl) (by kernel_rfl) (by kernel_rfl) (by kernel_rfl) (k:=.u32) (y:=1) hc' hz'
 go_enter_d Tryz.func114,Tryz.ntmps114
 go_wp2
 go_region_calls
 all_goals(go_end0;exact⟨rfl,rfl⟩)
theorem o_unlock (a:Addr) (u:FrameMode) (w:World) (hc:w.cell? a=some (.int .i32 1)) (hz:w.frozen? a=false) :
  CallsD Tryz.prog 113 #[.pointer (some a)] u w fun e u' w'=>u'=u/\(e=.returned (.tuple #[])/\w'=w.setCell a (.int .i32 0)):=by
 have hd:=o_disable
 have he:=o_enable
 have hr:=o_releaseMerge
 have hadd:=run_call_add (P:=Tryz.prog) Tryz.func239 (by kernel_rfl) (by kernel_rfl) (by kernel_rfl) .i32 (by kernel_rfl) (y:= -1) (s:=0) hc hz (by simp[go_sem];rfl)
 have hcv:=run_convert_to_unsafe (P:=Tryz.prog) (src:=258) (dst:=262) Tryz.underlying258 Tryz.underlying262 (by kernel_rfl) hc
 go_enter_d Tryz.func113,Tryz.ntmps113
 go_wp2
 all_goals go_end0
 all_goals go_wp2
 all_goals go_end0
 all_goals exact⟨rfl,rfl⟩
theorem o_lock (a:Addr) (w:World) (hc:w.cell? a=some (.int .i32 0)) (hz:w.frozen? a=false) :
  Calls Tryz.prog 112 #[.pointer (some a)] w fun e w'=>e=.returned (.tuple #[])/\w'=w.setCell a (.int .i32 1):=by
 have hd:=o_disable
 have he:=o_enable
 have ha:=o_acquire
 have hcas:=run_call_cas_hit (P:=Tryz.prog) Tryz.func234 (by kernel_rfl) (by kernel_rfl) (by kernel_rfl) .i32 (by kernel_rfl) (y:=1) hc hz
 have hc':(w.setCell a (.int .i32 1)).cell? a=some (.int .i32 1):=World.cell?_setCell_same w a _ hc
 have hcv:=run_convert_to_unsafe (P:=Tryz.prog) (src:=258) (dst:=262) Tryz.underlying258 Tryz.underlying262 (by kernel_rfl) hc'
 go_enter Tryz.func112,Tryz.ntmps112
 go_wp2
 all_goals first|go_end0|(simp only[Exit.inBlock,Exit.then];refine bodyPost_ret (results_none rfl _ _ _) rfl ?_)|refine bodyPost_ret (results_none rfl _ _ _) rfl ?_
 all_goals go_wp2
 all_goals go_end0
 all_goals exact⟨rfl,rfl⟩
def Turn (b:Nat) (w w':World):Prop:=w'.os=w.os/\w'.tape=w.tape/\w'.output=w.output/\w.heap.size<=w'.heap.size/\∀ k,k<w.heap.size->k≠b->w'.heap[k]? =w.heap[k]?
theorem Turn.of_below {b:Nat} {w w':World} (h:Below w.heap.size w w'):Turn b w w':=⟨h.os,h.tape,h.output,h.size,fun k hk _=>h.block k hk⟩
theorem Turn.refl (b:Nat) (w:World):Turn b w w:=.of_below (.refl _ _)
theorem Turn.trans {b:Nat} {w w' w'':World} (h:Turn b w w') (k:Turn b w' w''):Turn b w w'' :=
 ⟨k.1.trans h.1,k.2.1.trans h.2.1,k.2.2.1.trans h.2.2.1,Nat.le_trans h.2.2.2.1 k.2.2.2.1,fun n hn hb=>(k.2.2.2.2 n (Nat.lt_of_lt_of_le hn h.2.2.2.1) hb).trans (h.2.2.2.2 n hn hb)⟩
theorem Turn.setCell {b:Nat} {a w:World} (h:Turn b a w) (i:Nat) (v:Value):Turn b a (w.setCell ⟨b,i,none⟩ v) :=
 h.trans ⟨rfl,rfl,rfl,by simp[World.setCell],fun k _ hk=>by
   unfold World.setCell
   simp only[Array.getElem?_modify]
   rw[if_neg (fun e=>hk e.symm)]⟩
theorem Turn.drew {b:Nat} {a w:World} (h:Turn b a w):Turn b a w.drew:=h
theorem Turn.alloc {b:Nat} {a w:World} (h:Turn b a w) (o:Obj):Turn b a (w.alloc o):=h.trans (.of_below ((Below.refl _ _).alloc (Nat.le_refl _) _))
theorem cell_lt {w:World} {b i:Nat} {v:Value} (h:w.cell? ⟨b,i,none⟩=some v):b<w.heap.size:=by
 unfold World.cell? at h
 by_cases hb:b<w.heap.size
 ·exact hb
 ·rw[Array.getElem?_eq_none (show w.heap.size<=(⟨b,i,none⟩:Addr).block by simpa using hb)] at h
  cases h
theorem Turn.cell {b k i:Nat} {w w':World} {v:Value} (h:Turn b w w') (hk:k≠b) (hc:w.cell? ⟨k,i,none⟩=some v):w'.cell? ⟨k,i,none⟩=some v :=
 (World.cell?_of_block (a:=⟨k,i,none⟩) (h.2.2.2.2 k (cell_lt hc) hk)).trans hc
theorem Turn.frozen {b k i:Nat} {w w':World} (h:Turn b w w') (hk:k≠b) (hlt:k<w.heap.size):w'.frozen? ⟨k,i,none⟩=w.frozen? ⟨k,i,none⟩ :=
 World.frozen?_of_block (a:=⟨k,i,none⟩) (h.2.2.2.2 k hlt hk)
def tame:Value->Bool
 | .int .u32 _=>false
 | .int .i32 _=>false
 | .map _=>false
 | _=>true
structure KeepsT (w w':World):Prop where
 cell:∀ b i v,tame v=true->w.cell? ⟨b,i,none⟩=some v->w'.cell? ⟨b,i,none⟩=some v
 one:∀ b,OneCell w b->OneCell w' b
theorem Keeps.tame {w w':World} (h:Keeps w w'):KeepsT w w':=⟨fun b i v _ hv=>h.cell b i v hv,h.one⟩
theorem KeepsT.trans {a b c:World} (h:KeepsT a b) (k:KeepsT b c):KeepsT a c:=⟨fun n i v ht hv=>k.cell n i v ht (h.cell n i v ht hv),fun b hb=>k.one b (h.one b hb)⟩
theorem one_setCell {w:World} {b n j:Nat} {x y:Value} (hc:w.cell? ⟨b,j,none⟩=some x) (h:OneCell w n):OneCell (w.setCell ⟨b,j,none⟩ y) n:=by
 refine⟨by simpa [World.setCell] using h.1,fun i v hv=> ?_⟩
 by_cases e:(⟨n,i,none⟩:Addr)=⟨b,j,none⟩
 ·cases e
  exact h.2 _ _ hc
 ·rw[World.cell?_setCell_other _ _ _ _ (fun h=>e (by first|exact h|exact h.symm))] at hv
  exact h.2 i v hv
theorem keepsT_setCell {w:World} {b j:Nat} {x y:Value} (hc:w.cell? ⟨b,j,none⟩=some x) (hx:tame x=false):KeepsT w (w.setCell ⟨b,j,none⟩ y):=by
 refine⟨fun n i v ht hv=> ?_,fun n hn=>one_setCell hc hn⟩
 by_cases e:(⟨n,i,none⟩:Addr)=⟨b,j,none⟩
 ·rw[e,hc] at hv
  cases hv
  rw[hx] at ht
  cases ht
 ·rw[World.cell?_setCell_other _ _ _ _ (fun h=>e (by first|exact h|exact h.symm))]
  exact hv
theorem DoOK.tame {w w':World} {f:Value} {d:Doer} (h:DoOK w f d) (hk:KeepsT w w'):DoOK w' f d:=by
 cases d with
 | plain k=>exact h
 | truths k=>obtain⟨p,h1,h2⟩:=h;exact⟨p,h1,hk.cell _ _ _ rfl h2⟩
 | tagged t=>obtain⟨p,h1,h2,h3⟩:=h;exact⟨p,h1,hk.cell _ _ _ rfl h2,hk.one _ h3⟩
theorem DoOK.is_tame {w:World} {f:Value} {d:Doer} (h:DoOK w f d):Proofs.YtppghgnhlgoagaaGreatDoor.tame f=true:=by
 cases d with
 | plain k=>cases h;rfl
 | truths k=>obtain⟨p,h1,h2⟩:=h;cases h1;rfl
 | tagged t=>obtain⟨p,h1,h2⟩:=h;cases h1;rfl
theorem OwnE.tame {w w':World} {v:Value} {x y:Int} {d:Doer} (h:OwnE w v x y d) (hk:KeepsT w w'):OwnE w' v x y d:=by
 obtain⟨pl,pm,pd,f,e,h1,h2,h3,h4⟩:=h
 exact⟨pl,pm,pd,f,e,hk.cell _ _ _ rfl h1,hk.cell _ _ _ rfl h2,hk.cell _ _ _ h4.is_tame h3,h4.tame hk⟩
theorem LayE.tame {w w':World} {v:Value} {s:ByteArray} {i:Nat} (h:LayE w v s i) (hk:KeepsT w w'):LayE w' v s i:=by
 obtain⟨pb,pn,e,h0,h1,h2,h3⟩:=h
 exact⟨pb,pn,e,hk.cell _ _ _ rfl h0,hk.cell _ _ _ rfl h1,hk.cell _ _ _ rfl h2,hk.cell _ _ _ rfl h3⟩
theorem EntE.tame {w w':World} {v:Value} {s:ByteArray} (h:EntE w s v) (hk:KeepsT w w'):EntE w' s v:=by
 rcases h with ⟨x,y,d,e,h⟩|⟨i,e,h⟩
 ·exact .inl ⟨x,y,d,e,h.tame hk⟩
 ·exact .inr ⟨i,e,h.tame hk⟩
def zB3 (w:World) (m:Nat):Prop:=∃ L,w.heap[m]? =some (.map (ents L 0).toArray L.length)/\(∀ s v,getU s L=some v->EntE w s v)/\(∀ s,(getU s L).isSome=D1 50 s)/\(L.map (·.1)).Nodup
theorem zB0.map {w0 w:World} {m:Nat} (h:zB0 w0 m (D1 50) w):zB3 w m:=by
 obtain⟨L,_,_,h3,h4,h5⟩:=h
 exact⟨L,h3,h4,h5⟩
theorem zB0.since {w0 w:World} {m:Nat} {D:ByteArray->Bool} (h:zB0 w0 m D w):Below w0.heap.size w0 w:=by
 obtain⟨L,h1,_⟩:=h
 exact h1
theorem zB3.lt {w:World} {m:Nat} (h:zB3 w m):m<w.heap.size:=by
 obtain⟨L,h3,_⟩:=h
 exact(Array.getElem?_eq_some_iff.1 h3).1
theorem zB3.kept {w w':World} {m:Nat} (h:zB3 w m) (hb:w'.heap[m]? =w.heap[m]?) (hk:KeepsT w w'):zB3 w' m:=by
 obtain⟨L,h3,h4,h5⟩:=h
 exact⟨L,hb.trans h3,fun s v hv=>(h4 s v hv).tame hk,h5⟩
theorem zB3.below {w w':World} {m:Nat} (h:zB3 w m) (hb:Below w.heap.size w w'):zB3 w' m :=
 h.kept (hb.block m h.lt) (zAr hb).tame
theorem zB3.setCell {w:World} {m b j:Nat} {x y:Value} (h:zB3 w m) (hc:w.cell? ⟨b,j,none⟩=some x) (hx:Proofs.YtppghgnhlgoagaaGreatDoor.tame x=false):zB3 (w.setCell ⟨b,j,none⟩ y) m:=by
 refine h.kept ?_ (keepsT_setCell hc hx)
 obtain⟨L,h3,h4,h5⟩:=h
 by_cases e:b=m
 ·subst e
  unfold World.cell? at hc
  rw[h3] at hc
  cases hc
 ·unfold World.setCell
  simp only[Array.getElem?_modify]
  rw[if_neg e]
theorem zB3.drew {w:World} {m:Nat} (h:zB3 w m):zB3 w.drew m:=h
def Laid (w:World) (b:Nat) (e:Ending) (w':World):Prop:=e=.returned (.tuple #[])/\(∃ m,w'.cell? ⟨b,3,none⟩=some (.map (some m))/\zB3 w' m)/\Turn b w w'/\(∀ i,i≠3->w'.cell? ⟨b,i,none⟩=w.cell? ⟨b,i,none⟩)/\∀ i,w'.frozen? ⟨b,i,none⟩=w.frozen? ⟨b,i,none⟩
theorem laid_of {w w1:World} {b m:Nat} {x:Value} (hc:w.cell? ⟨b,3,none⟩=some x) (hx:tame x=false) (hM:zB0 w m (D1 50) w1):Laid w b (.returned (.tuple #[])) (w1.setCell ⟨b,3,none⟩ (.map (some m))):=by
 have hb:=hM.since
 have hlt:=cell_lt hc
 have hc1:w1.cell? ⟨b,3,none⟩=some x:=(World.cell?_of_block (a:=⟨b,3,none⟩) (hb.block b hlt)).trans hc
 refine⟨rfl,⟨m,World.cell?_setCell_same _ _ _ hc1,hM.map.setCell hc1 hx⟩,(Turn.of_below hb).setCell _ _,fun i hi=> ?_,fun i=> ?_⟩
 ·exact(World.cell?_setCell_other _ _ _ _ (by simp[Ne.symm hi])).trans (World.cell?_of_block (a:=⟨b,i,none⟩) (hb.block b hlt))
 ·rw[World.frozen?_setCell]
  exact World.frozen?_of_block (a:=⟨b,i,none⟩) (hb.block b hlt)
theorem all_made (b pl:Nat) (x3:Value) (hx:tame x3=false) (w:World) (hp:w.cell? ⟨pl,0,none⟩=some (.pointer (some ⟨b,0,none⟩))) (h3:w.cell? ⟨b,3,none⟩=some x3) (f3:w.frozen? ⟨b,3,none⟩=false) :
  Calls Tryz.prog 69 #[.pointer (some ⟨pl,0,none⟩)] w fun e w'=>Laid w b e w':=by
 have hlb:=cell_lt h3
 have hlp:=cell_lt hp
 go_enter Tryz.func69,Tryz.ntmps69
 go_wp2
 go_region_with (first|(go_at_call 70;refine(funcs_made _).mono ?_;rintro e w1 ⟨m,rfl,hM⟩;obtain⟨l,n,rfl⟩:=zA0 hM.since))
 all_goals
  go_end0
  have e:more (w.setCell ⟨b,3,none⟩ (.map (some m))) l n=(more w.drew l n).setCell ⟨b,3,none⟩ (.map (some m)):=(more_setCell (w:=w.drew) hlb).symm
  rw[e]
  exact laid_of (w:=w.drew) h3 hx hM
theorem o_load (a:Addr) (d:Int) (w:World) (h0:w.cell? a=some (.int .u32 d)):Calls Tryz.prog 86 #[.pointer (some a)] w fun e w'=>e=.returned (.bool (d != 0))/\w'=w:=by
 have hl:=run_call_load (P:=Tryz.prog) Tryz.func111 (by kernel_rfl) (by kernel_rfl) (by kernel_rfl) .u32 (by kernel_rfl) h0
 go_enter Tryz.func86,Tryz.ntmps86
 go_wp2
 go_ret
 exact⟨rfl,rfl⟩
def Ready (w:World) (b:Nat):Prop:=∃ d m,¬ d=0/\w.cell? ⟨b,0,none⟩=some (.int .u32 d)/\w.cell? ⟨b,3,none⟩=some (.map (some m))/\zB3 w m
theorem once_slow (b pl:Nat) (hpb:pl≠b) (x3:Value) (hx:tame x3=false) (w:World) (hp:w.cell? ⟨pl,0,none⟩=some (.pointer (some ⟨b,0,none⟩)))
  (h0:w.cell? ⟨b,0,none⟩=some (.int .u32 0)) (h1:w.cell? ⟨b,1,none⟩=some (.int .i32 0)) (h3:w.cell? ⟨b,3,none⟩=some x3)
  (f:∀ i,w.frozen? ⟨b,i,none⟩=false) :
  Calls Tryz.prog 87 #[.pointer (some ⟨b,0,none⟩),.func (.func 69) #[] #[.pointer (some ⟨pl,0,none⟩)]] w fun e w'=>e=.returned (.tuple #[])/\Ready w' b/\Turn b w w':=by
 have f0:=f 0
 have f1:=f 1
 have f3:=f 3
 have hp1:(w.setCell ⟨b,1,none⟩ (.int .i32 1)).cell? ⟨pl,0,none⟩=some (.pointer (some ⟨b,0,none⟩)):=(World.cell?_setCell_other _ ⟨b,1,none⟩ ⟨pl,0,none⟩ _ (by simp[hpb])).trans hp
 have h31:(w.setCell ⟨b,1,none⟩ (.int .i32 1)).cell? ⟨b,3,none⟩=some x3:=(World.cell?_setCell_other _ ⟨b,1,none⟩ ⟨b,3,none⟩ _ (by simp)).trans h3
 have h01:(w.setCell ⟨b,1,none⟩ (.int .i32 1)).cell? ⟨b,0,none⟩=some (.int .u32 0):=(World.cell?_setCell_other _ ⟨b,1,none⟩ ⟨b,0,none⟩ _ (by simp)).trans h0
 have h11:(w.setCell ⟨b,1,none⟩ (.int .i32 1)).cell? ⟨b,1,none⟩=some (.int .i32 1):=World.cell?_setCell_same w _ _ h1
 have fz:∀ i,(w.setCell ⟨b,1,none⟩ (.int .i32 1)).frozen? ⟨b,i,none⟩=false:=fun i=>(World.frozen?_setCell _ _ _ _).trans (f i)
 have hT0:Turn b w (w.setCell ⟨b,1,none⟩ (.int .i32 1)):=(Turn.refl b w).setCell 1 _
 have hnot:∀ (x:Bool) (w:World),(Op.unary .not (.bool x)).run Tryz.prog w=.ok (.bool (!x)) w:=fun _ _=>rfl
 go_enter_defers Tryz.func87,Tryz.ntmps87
 go_wp2_with(first|(go_at_call 112;refine(o_lock ⟨b,1,none⟩ _ (by go_simp) (by go_simp)).mono ?_;rintro e w' ⟨rfl,rfl⟩)|(go_at_call 86;refine(o_load _ 0 _ h01).mono ?_;rintro e w' ⟨rfl,rfl⟩)|(go_at_call 69;refine(all_made b pl x3 hx _ hp1 h31 (fz 3)).mono ?_;rintro e w1 ⟨rfl,⟨m,hm3,hM⟩,hT,hc,hz⟩))
 have h0':w1.cell? ⟨b,0,none⟩=some (.int .u32 0):=(hc 0 (by simp)).trans h01
 have h1':w1.cell? ⟨b,1,none⟩=some (.int .i32 1):=(hc 1 (by simp)).trans h11
 have fz':∀ i,w1.frozen? ⟨b,i,none⟩=false:=fun i=>(hz i).trans (fz i)
 have hT1:=hT0.trans hT
 clear hc hz hT hT0 fz f f0 f1 f3 h01 h11 h31 hp1 h0 h1 h3 hp hnot
 refine leaves_cons (f:=114) (args:=#[.pointer (some ⟨b,0,none⟩),.bool true]) (by simp) (by simp[go_sem]) ?_
 refine(o_store ⟨b,0,none⟩ (.int .u32 0) .returning _ h0' (fz' 0)).mono ?_
 rintro e u' w'' ⟨rfl,rfl,rfl⟩
 refine leaves_cons (f:=113) (args:=#[.pointer (some ⟨b,1,none⟩)]) (by simp[settle]) (by simp[go_sem]) ?_
 have h1d:(w1.drew.setCell ⟨b,0,none⟩ (.int .u32 1)).cell? ⟨b,1,none⟩=some (.int .i32 1):=(World.cell?_setCell_other _ ⟨b,0,none⟩ ⟨b,1,none⟩ _ (by simp)).trans h1'
 have f1d:(w1.drew.setCell ⟨b,0,none⟩ (.int .u32 1)).frozen? ⟨b,1,none⟩=false:=(World.frozen?_setCell _ _ _ _).trans (fz' 1)
 refine(o_unlock ⟨b,1,none⟩ _ _ h1d f1d).mono ?_
 rintro e u' w'' ⟨rfl,rfl,rfl⟩
 have h0d:w1.drew.cell? ⟨b,0,none⟩=some (.int .u32 0):=h0'
 have hR:Ready ((w1.drew.setCell ⟨b,0,none⟩ (.int .u32 1)).setCell ⟨b,1,none⟩ (.int .i32 0)) b :=
  ⟨1,m,by simp,(World.cell?_setCell_other _ ⟨b,1,none⟩ ⟨b,0,none⟩ _ (by simp)).trans (World.cell?_setCell_same _ _ _ h0d),
   (World.cell?_setCell_other _ ⟨b,1,none⟩ ⟨b,3,none⟩ _ (by simp)).trans ((World.cell?_setCell_other _ ⟨b,0,none⟩ ⟨b,3,none⟩ _ (by simp)).trans hm3),
   (hM.drew.setCell h0d rfl).setCell h1d rfl⟩
 simp[Leaves,settle,results,Tryz.results87]
 exact⟨hR,(hT1.drew.setCell 0 _).setCell 1 _⟩
theorem once_first (b pl:Nat) (hpb:pl≠b) (x3:Value) (hx:tame x3=false) (w:World) (hp:w.cell? ⟨pl,0,none⟩=some (.pointer (some ⟨b,0,none⟩)))
  (h0:w.cell? ⟨b,0,none⟩=some (.int .u32 0)) (h1:w.cell? ⟨b,1,none⟩=some (.int .i32 0)) (h3:w.cell? ⟨b,3,none⟩=some x3)
  (f:∀ i,w.frozen? ⟨b,i,none⟩=false) :
  Calls Tryz.prog 68 #[.pointer (some ⟨b,0,none⟩),.func (.func 69) #[] #[.pointer (some ⟨pl,0,none⟩)]] w fun e w'=>e=.returned (.tuple #[])/\Ready w' b/\Turn b w w':=by
 have hnot:∀ (x:Bool) (w:World),(Op.unary .not (.bool x)).run Tryz.prog w=.ok (.bool (!x)) w:=fun _ _=>rfl
 go_enter Tryz.func68,Tryz.ntmps68
 go_wp2_with(first|(go_at_call 86;refine(o_load _ 0 _ h0).mono ?_;rintro e w' ⟨rfl,rfl⟩)|(go_at_call 87;refine(once_slow b pl hpb x3 hx _ hp h0 h1 h3 f).mono ?_;rintro e w1 ⟨rfl,hR,hT⟩))
 go_end0
 exact⟨rfl,hR,hT⟩
theorem once_done (a:Addr) (d:Int) (hd: ¬ d=0) (fv:Value) (w:World) (h0:w.cell? a=some (.int .u32 d)) :
  Calls Tryz.prog 68 #[.pointer (some a),fv] w fun e w'=>e=.returned (.tuple #[])/\w'=w:=by
 have hnot:∀ (x:Bool) (w:World),(Op.unary .not (.bool x)).run Tryz.prog w=.ok (.bool (!x)) w:=fun _ _=>rfl
 have hd':(d != 0)=true:=by simp[hd]
 go_enter Tryz.func68,Tryz.ntmps68
 go_wp2_with(go_at_call 86;refine(o_load _ d _ h0).mono ?_;rintro e w' ⟨rfl,rfl⟩)
 go_end0
 exact⟨rfl,rfl⟩
open Go.Lib renaming hid->zh
def Fresh (w:World) (b:Nat):Prop:=w.cell? ⟨b,0,none⟩=some (.int .u32 0)/\w.cell? ⟨b,1,none⟩=some (.int .i32 0)/\w.cell? ⟨b,3,none⟩=some (.map none)/\∀ i,w.frozen? ⟨b,i,none⟩=false
def zCF (w:World) (b:Nat):Prop:=Ready w b∨Fresh w b
theorem Ready.lt {w:World} {b:Nat} (h:Ready w b):b<w.heap.size:=by
 obtain⟨d,m,_,h0,_⟩:=h
 exact cell_lt h0
theorem zCF.lt {w:World} {b:Nat} (h:zCF w b):b<w.heap.size:=by
 rcases h with h|h
 ·exact h.lt
 ·exact cell_lt h.1
theorem Ready.below {w w':World} {b:Nat} (h:Ready w b) (hb:Below w.heap.size w w'):Ready w' b:=by
 have hl:=h.lt
 obtain⟨d,m,h1,h2,h3,h4⟩:=h
 exact⟨d,m,h1,(World.cell?_of_block (a:=⟨b,0,none⟩) (hb.block b hl)).trans h2,(World.cell?_of_block (a:=⟨b,3,none⟩) (hb.block b hl)).trans h3,h4.below hb⟩
theorem zCF.below {w w':World} {b:Nat} (h:zCF w b) (hb:Below w.heap.size w w'):zCF w' b:=by
 rcases h with h|h
 ·exact .inl (h.below hb)
 ·have hl:=cell_lt h.1
  refine .inr ⟨?_,?_,?_,fun i=> ?_⟩
  ·exact(World.cell?_of_block (a:=⟨b,0,none⟩) (hb.block b hl)).trans h.1
  ·exact(World.cell?_of_block (a:=⟨b,1,none⟩) (hb.block b hl)).trans h.2.1
  ·exact(World.cell?_of_block (a:=⟨b,3,none⟩) (hb.block b hl)).trans h.2.2.1
  ·exact(World.frozen?_of_block (a:=⟨b,i,none⟩) (hb.block b hl)).trans (h.2.2.2 i)
theorem once_any (b pl:Nat) (hpb:pl≠b) (w:World) (h:zCF w b) (hp:w.cell? ⟨pl,0,none⟩=some (.pointer (some ⟨b,0,none⟩))) :
  Calls Tryz.prog 68 #[.pointer (some ⟨b,0,none⟩),.func (.func 69) #[] #[.pointer (some ⟨pl,0,none⟩)]] w fun e w'=>e=.returned (.tuple #[])/\Ready w' b/\Turn b w w':=by
 rcases h with h|⟨h0,h1,h3,f⟩
 ·have hr:=h
  obtain⟨d,m,hd,h0,_⟩:=h
  exact(once_done ⟨b,0,none⟩ d hd _ w h0).mono fun e w' ⟨e1,e2⟩=>by subst e2;exact⟨e1,hr,Turn.refl _ _⟩
 ·exact once_first b pl hpb (.map none) rfl w hp h0 h1 h3 f
theorem table_all (b:Nat) (w:World) (h:zCF w b):Calls Tryz.prog 44 #[.pointer (some ⟨b,0,none⟩)] w fun e w'=>(∃ m,e=.returned (.map (some m))/\zB3 w' m)/\Ready w' b/\Turn b w w':=by
 have hmf:∀ (fn:Fn) (first cap:Array Value) (w:World),(Instr.makeFunc fn first cap).run Tryz.prog w=.ok (.func fn first cap) w:=fun _ _ _ _=>rfl
 have hlt:=h.lt
 have hal:∀ o,Below w.heap.size w (w.alloc o):=fun o=>(Below.refl _ _).alloc (Nat.le_refl _) o
 have hta:∀ o,zCF (w.alloc o) b:=fun o=>h.below (hal o)
 have hne:w.heap.size≠b:=by omega
 go_enter Tryz.func44,Tryz.ntmps44
 go_wp2_with(go_at_call 68;refine(once_any b w.heap.size hne _ (hta _) (by go_simp)).mono ?_;rintro e w1 ⟨rfl,⟨d,m,hd,h0,h3,hM⟩,hT⟩;have hp:=hT.cell hne (v:=.pointer (some ⟨b,0,none⟩)) (i:=0) (by go_simp);replace hT:=(Turn.of_below (hal _)).trans hT)
 go_ret
 exact⟨⟨m,rfl,hM⟩,⟨d,m,hd,h0,h3,hM⟩,hT⟩
section
variable {ops:Array Oper} {rest:List Oper} {o:Oper} {a:Act} {Q:Exit->Act->World->Prop}
theorem wpList_lookI {w:World} {m:Nat} (h:zB3 w m) (mm x:Operand) (hg:o.guard=none) (hop:o.op=Op.lookup 79 mm x true) (hm:a.eval mm=.map (some m)) (s:ByteArray) (hx:a.eval x=.string s)
  (hY:∀ (fn:Fn) (first cap:Array Value) (fn1:Fn) (first1 cap1:Array Value),RowKit.Hid (EntE w s (.agg #[.func fn first cap,.func fn1 first1 cap1])/\D1 50 s=true)->wpList Tryz.prog ops Q rest (a.put o.dst (.tuple #[.agg #[.func fn first cap,.func fn1 first1 cap1],.bool true])) w)
  (hN:RowKit.Hid (D1 50 s=false)->wpList Tryz.prog ops Q rest (a.put o.dst (.tuple #[.agg #[.nilFunc,.nilFunc],.bool false])) w):wpList Tryz.prog ops Q (o::rest) a w:=by
 obtain⟨L,h3,h4,h5,_⟩:=h
 have hlt:m<w.heap.size:=(Array.getElem?_eq_some_iff.1 h3).1
 have e:=setMap_self h3
 have:=wpList_look0 (P:=Tryz.prog) (ops:=ops) (rest:=rest) (o:=o) (a:=a) (Q:=Q) hg 79 mm x hop 9 129 Tryz.underlying9 Tryz.underlying79 (.agg #[.nilFunc,.nilFunc]) (fun w=>by kernel_rfl) w m L hm hlt s hx
 rw[e] at this
 refine this (fun v hv=> ?_) (fun hv=> ?_)
 ·have hE:=h4 s v hv
  have hD:D1 50 s=true:=by rw[<- h5 s,hv];rfl
  rcases hE with ⟨x,y,d,e1,e2⟩|⟨i,e1,e2⟩
  ·obtain⟨pl,pm,pd,f,ev,hr⟩:=e2
   subst ev
   exact hY _ _ _ _ _ _ (zh ⟨.inl ⟨x,y,d,e1,pl,pm,pd,f,rfl,hr⟩,hD⟩)
  ·obtain⟨pb,pn,ev,hr⟩:=e2
   subst ev
   exact hY _ _ _ _ _ _ (zh ⟨.inr ⟨i,e1,pb,pn,rfl,hr⟩,hD⟩)
 ·have hD:D1 50 s=false:=by rw[<- h5 s,hv];rfl
  exact hN (zh hD)
end
theorem singles1 (pl pm:Nat) (x y:Int) (A:Option Addr) (n c:Nat) (xs:List Bool) (w:World) (B:Nat) (h1:w.cell? ⟨pl,0,none⟩=some (.int .i64 x)) (h2:w.cell? ⟨pm,0,none⟩=some (.int .i64 y))
  (hr:Reads w B 1 A n (xs.map Value.bool)) (hm:n<=9223372036854775807) :
  Rt 149 #[.slice A n c,.pointer (some ⟨pl,0,none⟩),.pointer (some ⟨pm,0,none⟩)] w (.bool (between x y n&& !zAm xs)):=by
 by_cases hx:x<=n
 ·by_cases hy:n<=y
  ·have e:(between x y n&& !zAm xs)= !zAm xs:=by simp[between,hx,hy]
   rw[e]
   clear e
   go_enter Tryz.func149,Tryz.ntmps149
   go_wp2_with fail
   refine(contains_bools A n c B xs _ (hr.keeps kps) hm).mono ?_
   rintro e w1 ⟨rfl,rfl⟩
   clear hr
   go_wp2
   go_ret
   exact⟨rfl,bel⟩
  ·have e:(between x y n&& !zAm xs)=false:=by simp[between,hy]
   rw[e]
   clear e hr
   go_enter Tryz.func149,Tryz.ntmps149
   go_wp2
   go_ret
   exact⟨rfl,bel⟩
 ·have e:(between x y n&& !zAm xs)=false:=by simp[between,hx]
  rw[e]
  clear e hr
  go_enter Tryz.func149,Tryz.ntmps149
  go_wp2
  go_ret
  exact⟨rfl,bel⟩
def layTakes (i:Nat) (s:ByteArray) (xs:List Bool):Bool:=if i=0 then zBZ s xs else if i=1 then zBG s xs else zBB s xs
theorem made1 (pb pn i:Nat) (s:ByteArray) (A:Option Addr) (n c:Nat) (xs:List Bool) (w:World) (B:Nat) (h1:w.cell? ⟨pb,1,none⟩=some (.func (.func (layFn i 1)) #[] #[])) (h2:w.cell? ⟨pn,0,none⟩=some (.string s))
  (hr:Reads w B 1 A n (xs.map Value.bool)) (hm:n<=9223372036854775807) :
  Rt 98 #[.slice A n c,.pointer (some ⟨pb,0,none⟩),.pointer (some ⟨pn,0,none⟩)] w (.bool (layTakes i s xs)):=by
 by_cases i0:i=0
 ·subst i0
  replace h1:w.cell? ⟨pb,1,none⟩=some (.func (.func 90) #[] #[]):=h1
  go_enter Tryz.func98,Tryz.ntmps98
  go_wp2_with fail
  refine(nums_Takes s A n c xs _ B hr hm).mono ?_
  rintro e w1 ⟨rfl,hb⟩
  go_wp2
  go_ret
  exact⟨rfl,hb⟩
 ·by_cases i1:i=1
  ·subst i1
   replace h1:w.cell? ⟨pb,1,none⟩=some (.func (.func 93) #[] #[]):=h1
   go_enter Tryz.func98,Tryz.ntmps98
   go_wp2_with fail
   refine(texts_Takes s A n c xs _ B hr hm).mono ?_
   rintro e w1 ⟨rfl,hb⟩
   go_wp2
   go_ret
   exact⟨rfl,hb⟩
  ·have e:layTakes i s xs=zBB s xs:=by simp[layTakes,i0,i1]
   rw[e]
   have e2:layFn i 1=96:=by simp[layFn,i0,i1]
   rw[e2] at h1
   clear e e2 i0 i1
   go_enter Tryz.func98,Tryz.ntmps98
   go_wp2_with fail
   refine(aggs_Takes s A n c xs _ B hr hm).mono ?_
   rintro e w1 ⟨rfl,hb⟩
   go_wp2
   go_ret
   exact⟨rfl,hb⟩
def takesAll (s:ByteArray) (xs:List Bool):Bool:=match zAz s with
 | some (x,y,_)=>between x y xs.length&& !zAm xs
 | none=>match layOf s with
   | some i=>layTakes i s xs
   | none=>false
theorem ite_key {α:Type} {p:Prop} [Decidable p] {a r:α} {b:Option α} (h:(if p then some a else b)=some r):p∨b=some r:=by
 by_cases hp:p
 ·exact .inl hp
 ·rw[if_neg hp] at h;exact .inr h
theorem own_lay (s:ByteArray) {q:Int×Int×Doer} (h:zAz s=some q):layOf s=none:=by
 unfold zAz at h
 iterate 16
  rcases ite_key h with e|h
  ·subst e
   decide +kernel
 cases h
theorem lay_known (s:ByteArray) {i:Nat} (h:layOf s=some i):inFirst 50 s=true:=by
 unfold layOf at h
 split at h
 ·rename_i hn
  obtain⟨q,hn⟩:=Option.isSome_iff_exists.1 hn
  unfold zC4 at hn
  iterate 16
   rcases ite_key hn with e|hn
   ·subst e
    decide +kernel
  cases hn
 ·split at h
  ·rename_i hn
   obtain⟨q,hn⟩:=Option.isSome_iff_exists.1 hn
   unfold zB1 at hn
   iterate 16
    rcases ite_key hn with e|hn
    ·subst e
     decide +kernel
   cases hn
  ·split at h
   ·rename_i hn
    obtain⟨q,hn⟩:=Option.isSome_iff_exists.1 hn
    unfold zB4 at hn
    iterate 18
     rcases ite_key hn with e|hn
     ·subst e
      decide +kernel
    cases hn
   ·cases h
theorem own_known (s:ByteArray) {q:Int×Int×Doer} (h:zAz s=some q):isOwn s=true:=by
 unfold zAz at h
 iterate 16
  rcases ite_key h with e|h
  ·subst e
   decide +kernel
 cases h
def Apart (b:Nat) (A:Option Addr) (n:Nat):Prop:=0<n->∀ p,A=some p->p.block≠b
theorem Reads.turn {w w':World} {b B size n:Nat} {A:Option Addr} {xs:List Value} (h:Reads w B size A n xs) (ha:Apart b A n) (ht:Turn b w w'):Reads w' B size A n xs :=
 ⟨h.1,fun hn=>by
  obtain⟨k,off,e,hb,hc⟩:=h.2 hn
  exact⟨k,off,e,hb,fun j u hu=>ht.cell (ha hn _ e) (hc j u hu)⟩⟩
theorem table_New (w:World):Calls Tryz.prog 8 #[] w fun e w'=>e=.returned (.pointer (some ⟨w.heap.size,0,none⟩))/\Fresh w' w.heap.size/\Below w.heap.size w w':=by
 go_enter Tryz.func8,Tryz.ntmps8
 go_wp2
 go_ret
 refine⟨rfl,⟨?_,?_,?_,fun i=> ?_⟩,bel⟩
 all_goals go_simp
theorem ent_own {s:ByteArray} {fn fn1:Fn} {first cap first1 cap1:Array Value} {w:World} {x y:Int} {d:Doer} (h:EntE w s (.agg #[.func fn first cap,.func fn1 first1 cap1])) (ho:zAz s=some (x,y,d)) :
  ∃ pl pm pd f,fn=.func 149/\first= #[]/\cap= #[.pointer (some ⟨pl,0,none⟩),.pointer (some ⟨pm,0,none⟩)]/\fn1=.func 150/\first1= #[]/\cap1= #[.pointer (some ⟨pd,0,none⟩)] /\
    w.cell? ⟨pl,0,none⟩=some (.int .i64 x)/\w.cell? ⟨pm,0,none⟩=some (.int .i64 y)/\w.cell? ⟨pd,0,none⟩=some f/\DoOK w f d:=by
 rcases h with ⟨x',y',d',e1,pl,pm,pd,f,ev,h1,h2,h3,h4⟩|⟨i,e1,_⟩
 ·rw[ho] at e1
  cases e1
  injection ev with ev
  cases ev
  exact⟨pl,pm,pd,f,rfl,rfl,rfl,rfl,rfl,rfl,h1,h2,h3,h4⟩
 ·rw[own_lay s ho] at e1
  cases e1
theorem own_slice {w:World} {base e size n:Nat} {v:Value} {xs:List Value} (h:w.ownsRow base e size v n xs):∃ A c,v=.slice A n c:=by
 rcases h.2 with ⟨h1,h2⟩|⟨g,cap,cur,e1,_⟩
 ·subst h2;exact⟨_,_,h1⟩
 ·exact⟨_,_,e1⟩
def funO (pl pm pd:Nat):Obj:=.cells #[.func (.func 149) #[] #[.pointer (some ⟨pl,0,none⟩),.pointer (some ⟨pm,0,none⟩)],.func (.func 150) #[] #[.pointer (some ⟨pd,0,none⟩)]] 129
theorem ownTab_lows {s:ByteArray} {x y:Int} {d:Doer} (h:zAz s=some (x,y,d)):1<=x/\1<=y:=by
 unfold zAz at h
 iterate 16
  rcases ite_some h with e|h
  ·cases e;decide
 cases h
def OddB (w:World) (k:Nat):Prop:=(∃ x,w.cell? ⟨k,0,none⟩=some (.bool x))∨(∃ A n c,w.cell? ⟨k,0,none⟩=some (.slice A n c))∨w.heap[k]? =some zeroV
def oddV:Value->Bool
 | .bool _=>true
 | .slice _ _ _=>true
 | .int .i64 x=>x==0
 | _=>false
theorem zero_cell {w:World} {N:Nat} (hZ:w.heap[N]? =some zeroV):w.cell? ⟨N,0,none⟩=some (.int .i64 0):=cell_blk (i:=0) hZ rfl
theorem zero_cell1 {w:World} {N:Nat} (hZ:w.heap[N]? =some zeroV):w.cell? ⟨N,1,none⟩=some (.int .i64 0):=cell_blk (i:=1) hZ rfl
theorem OddB.v {w:World} {k:Nat} (h:OddB w k):∃ u,w.cell? ⟨k,0,none⟩=some u/\oddV u=true:=by
 rcases h with ⟨x,h⟩|⟨A,n,c,h⟩|h
 ·exact⟨_,h,rfl⟩
 ·exact⟨_,h,rfl⟩
 ·exact⟨_,zero_cell h,rfl⟩
theorem OddB.no {w:World} {k:Nat} {u:Value} (h:w.cell? ⟨k,0,none⟩=some u) (hu:oddV u=false): ¬ OddB w k:=fun ho=>by
 obtain⟨v,h1,h2⟩:=ho.v
 rw[h] at h1
 cases h1
 rw[hu] at h2
 cases h2
theorem OddB.one {w:World} {k:Nat} {t:Int} (h:w.cell? ⟨k,0,none⟩=some (.int .i64 t)) (ho:OneCell w k): ¬ OddB w k:=fun h1=>by
 rcases h1 with ⟨x,h2⟩|⟨A,n,c,h2⟩|h2
 ·rw[h] at h2;cases h2
 ·rw[h] at h2;cases h2
 ·have:=ho.2 1 _ (zero_cell1 h2)
  omega
theorem DoOK.no {w:World} {f:Value} {d:Doer} (h:DoOK w f d):oddV f=false:=by
 cases d with
 | plain k=>cases h;rfl
 | truths k=>obtain⟨p,h1,_⟩:=h;cases h1;rfl
 | tagged t=>obtain⟨p,h1,_⟩:=h;cases h1;rfl
section
variable {w w':World} (hs:w.heap.size<=w'.heap.size) (hk:∀ k,k<w.heap.size->¬ OddB w k->w'.heap[k]? =w.heap[k]?)
include hk
theorem keep_no {p i:Nat} {u:Value} (h:w.cell? ⟨p,i,none⟩=some u) (hp: ¬ OddB w p):w'.cell? ⟨p,i,none⟩=some u :=
 (World.cell?_of_block (a:=⟨p,i,none⟩) (hk p (World.block_lt_of_cell? w _ h) hp)).trans h
theorem keep_0 {p:Nat} {u:Value} (h:w.cell? ⟨p,0,none⟩=some u) (hu:oddV u=false):w'.cell? ⟨p,0,none⟩=some u:=keep_no hk h (OddB.no h hu)
include hs
theorem DoOK.apart {f:Value} {d:Doer} (h:DoOK w f d):DoOK w' f d:=by
 cases d with
 | plain k=>exact h
 | truths k =>
   obtain⟨p,h1,h2⟩:=h
   exact⟨p,h1,keep_0 hk h2 rfl⟩
 | tagged t =>
   obtain⟨p,h1,h2,h3⟩:=h
   have hp:=OddB.one h2 h3
   exact⟨p,h1,keep_no hk h2 hp,h3.of_block hs (hk p h3.1 hp)⟩
theorem EntE.apart {s:ByteArray} {v:Value} (h:EntE w s v):EntE w' s v:=by
 rcases h with ⟨x,y,d,e,pl,pm,pd,f,ev,h1,h2,h3,h4⟩|⟨i,e,pb,pn,ev,h0,h1,h2,h3⟩
 ·have hl:=ownTab_lows e
  refine .inl ⟨x,y,d,e,pl,pm,pd,f,ev,keep_0 hk h1 ?_,keep_0 hk h2 ?_,keep_0 hk h3 (DoOK.no h4),h4.apart hs hk⟩
  ·show (x==0)=false
   simp
   omega
  ·show (y==0)=false
   simp
   omega
 ·have hp:=OddB.no h0 rfl
  exact .inr ⟨i,e,pb,pn,ev,keep_no hk h0 hp,keep_no hk h1 hp,keep_no hk h2 hp,keep_0 hk h3 rfl⟩
theorem zB3.apart {m:Nat} (h:zB3 w m):zB3 w' m:=by
 have hl:=h.lt
 obtain⟨L,h3,h4,h5⟩:=h
 have hm: ¬ OddB w m:=fun ho=>by
  obtain⟨v,h1,_⟩:=ho.v
  unfold World.cell? at h1
  rw[h3] at h1
  cases h1
 exact⟨L,(hk m hl hm).trans h3,fun s v hv=>(h4 s v hv).apart hs hk,h5⟩
theorem Ready.apart {b:Nat} (h:Ready w b):Ready w' b:=by
 obtain⟨d,m,hd,h0,h3,hM⟩:=h
 have hb:=OddB.no h0 rfl
 exact⟨d,m,hd,keep_no hk h0 hb,keep_no hk h3 hb,hM.apart hs hk⟩
theorem zCF.apart {b:Nat} (h:zCF w b):zCF w' b:=by
 rcases h with h|⟨h0,h1,h3,hf⟩
 ·exact .inl (h.apart hs hk)
 ·have hb:=OddB.no h0 rfl
  have hl:=World.block_lt_of_cell? w _ h0
  exact .inr ⟨keep_no hk h0 hb,keep_no hk h1 hb,keep_no hk h3 hb,fun i=>(World.frozen?_of_block (a:=⟨b,i,none⟩) (hk b hl hb)).trans (hf i)⟩
end
theorem more_alloc_ne {wB:World} {o o':Obj} {l:List Obj} {q k:Nat} (hk:k≠wB.heap.size):(more (wB.alloc o') l q).heap[k]? =(more (wB.alloc o) l q).heap[k]? :=by
 by_cases h:k<wB.heap.size+1
 ·rw[zBR (by simpa using h),zBR (by simpa using h)]
  have h1:k<wB.heap.size:=by omega
  rw[Below.heap_alloc wB o' k h1,Below.heap_alloc wB o k h1]
 ·unfold more
  simp only
  rw[Array.getElem?_append_right (by simp;omega),Array.getElem?_append_right (by simp;omega)]
  simp
theorem ready_end {wB:World} {o':Obj} {l:List Obj} {q b:Nat} (h:Ready (more (wB.alloc zeroV) l q) b):Ready (more (wB.alloc o') l q) b :=
 h.apart (by simp) (fun k _ hk=>more_alloc_ne fun e=>hk (.inr (.inr (by rw[e,zBR (by simp)];exact heap_alloc_new wB zeroV))))
theorem turn_split {w w1:World} {b:Nat} {o:Obj} (hb:b<w.heap.size) (h:Turn b (w.alloc o) w1):∃ wB l q,wB.heap.size=w.heap.size/\Turn b w wB/\w1=more (wB.alloc o) l q:=by
 obtain⟨h1,h2,h3,h4,h5⟩:=h
 have hs:w.heap.size+1<=w1.heap.size:=by simpa using h4
 let wB:World:= { w with heap:=(w1.heap.toList.take w.heap.size).toArray }
 have hB:wB.heap.size=w.heap.size:=by simp[wB];omega
 have hBk:∀ k,k<w.heap.size->wB.heap[k]? =w1.heap[k]? :=fun k hk=>by simp[wB,List.getElem?_take,hk]
 have hbel:Below (wB.alloc o).heap.size (wB.alloc o) w1:=by
  refine⟨h1,h2,h3,by simp[hB];omega,fun k hk=> ?_⟩
  have hk':k<w.heap.size+1:=by simpa [hB] using hk
  by_cases e:k<w.heap.size
  ·rw[Below.heap_alloc wB o k (by omega),hBk k e]
  ·have e2:k=w.heap.size:=by omega
   subst e2
   rw[h5 _ (by simp) (by omega),heap_alloc_new w o]
   have:=heap_alloc_new wB o
   rw[hB] at this
   exact this.symm
 obtain⟨l,q,e⟩:=zA0 hbel
 refine⟨wB,l,q,hB,⟨rfl,rfl,rfl,Nat.le_of_eq hB.symm,fun k hk hkb=> ?_⟩,e⟩
 rw[hBk k hk,h5 k (by simp;omega) hkb,Below.heap_alloc w o k hk]
theorem truths_asks (v:V) (w:World):Rt 154 #[(vG v)] w (.bool (v.tag==4)):=by
 go_enter Tryz.func154,Tryz.ntmps154
 go_wp2
 go_ret
 exact⟨rfl,bel⟩
def IdxF (vs:List V) (r:Int):Prop:=(∃ (k:Nat) (v:V),r=k/\vs[k]? =some v/\v.tag=4/\∀ j u,j<k->vs[j]? =some u->u.tag≠4)∨(r= -1/\∀ (j:Nat) (u:V),vs[j]? =some u->u.tag≠4)
theorem index_fault (vs:List V) (g n c:Nat) (w:World) (hn:vs.length=n) (hm:n<=1000000000000) (hl:g<w.heap.size) (h:Held w g vs) :
  Calls Tryz.prog 153 #[.slice (some ⟨g,0,none⟩) n c,.func (.func 154) #[] #[]] w fun e w'=>(∃ r,e=.returned (.int .i64 r)/\IdxF vs r)/\Below w.heap.size w w':=by
 have H:=zh h
 clear h
 go_enter Tryz.func153,Tryz.ntmps153
 go_wp2
 go_loopw [8] (fun t wr=>∃ k:Nat,k<=n/\t=.int .i64 k/\(∀ j u,j<k->vs[j]? =some u->u.tag≠4)/\Below w.heap.size w wr) (fun t _=>n-(intOf t).toNat)
 case atStart=>exact⟨0,Nat.zero_le _,rfl,fun j u hj=>by omega,Below.refl _ _⟩
 case round =>
  obtain⟨k,hk,rfl,hno,hB⟩:=hrel
  by_cases hlt:k<n
  ·obtain⟨v,hv⟩:∃ v,vs[k]? =some v:=⟨_,List.getElem?_eq_getElem (show k<vs.length by omega)⟩
   obtain⟨v0,v1,v2,v3,v4⟩:=(H.out.keeps (zAr hB)).at k v hv _ _ _ _ _ rfl rfl rfl rfl rfl
   have HV:=zh hv
   have HN:=zh hno
   have hB':=zh hB
   have hs:=hB.size
   clear hv hno hB
   by_cases ht:v.tag=4
   ·have ht':(v.tag==4)=true:=by simp[ht]
    have HT:=zh ht
    clear ht
    go_wp2_with(go_at_call 154;refine mB (truths_asks v _) ?_;intro l q)
    go_ret
    exact⟨⟨_,rfl,.inl ⟨k,v,rfl,HV.out,HT.out,HN.out⟩⟩,hB'.out.trans ((show Below wr.heap.size wr _ from bel).mono hs)⟩
   ·have ht':(v.tag==4)=false:=by simp[ht]
    have HT:=zh ht
    clear ht
    go_wp2_with(go_at_call 154;refine mB (truths_asks v _) ?_;intro l q)
    go_roundw
    case rel =>
     refine⟨k+1,by omega,by go_num,fun j u hj hu=> ?_,hB'.out.trans ((show Below wr.heap.size wr _ from bel).mono hs)⟩
     by_cases e:j=k
     ·subst e
      rw[HV.out] at hu
      cases hu
      exact HT.out
     ·exact HN.out j u (by omega) hu
    case measure=>simp[intOf];omega
  ·have hno':=zh hno
   clear hno
   go_wp2
   go_ret
   exact⟨⟨_,rfl,.inr ⟨rfl,fun j u hu=>hno'.out j u (by have:=(List.getElem?_eq_some_iff.1 hu).1;omega) hu⟩⟩,hB⟩
def zBM (fy:Nat->Nat->Bool) (vs:List V):V:=match vs.find? (fun v=>v.tag==4) with
 | some v=>v
 | none=>match vs.find? (fun v=>(zAX v).2 != 0) with
   | some v=>errG (zAX v).2
   | none=>zC1 (fy (vs.countP fun v=>(zAX v).1) vs.length)
theorem find_first {p:V->Bool} {vs:List V} {k:Nat} {v:V} (hv:vs[k]? =some v) (hp:p v=true) (hno:∀ j u,j<k->vs[j]? =some u->p u=false):vs.find? p=some v:=by
 induction vs generalizing k with
 | nil=>simp at hv
 | cons x xs ih =>
   cases k with
   | zero=>simp at hv;subst hv;simp[hp]
   | succ k =>
     have h0:=hno 0 x (by omega) rfl
     rw[List.find?_cons,h0]
     exact ih (by simpa using hv) (fun j u hj hu=>hno (j+1) u (by omega) (by simpa using hu))
theorem find_noF {p:V->Bool} {vs:List V} (hno:∀ (j:Nat) u,vs[j]? =some u->p u=false):vs.find? p=none:=by
 rw[List.find?_eq_none]
 intro x hx
 obtain⟨j,hj⟩:=List.mem_iff_getElem?.1 hx
 rw[hno j x hj]
 simp
theorem count_take {p:V->Bool} {vs:List V} {k:Nat} {v:V} (hv:vs[k]? =some v):(vs.take (k+1)).countP p=(vs.take k).countP p+if p v then 1 else 0:=by
 rw[zAn hv,List.countP_append]
 simp[List.countP_cons]
theorem fault_cases (vs:List V):(∃ (k:Nat) (v:V),vs[k]? =some v/\v.tag=4/\∀ j u,j<k->vs[j]? =some u->u.tag≠4)∨∀ (j:Nat) (u:V),vs[j]? =some u->u.tag≠4:=by
 induction vs with
 | nil=>exact .inr fun j u h=>by simp at h
 | cons x xs ih =>
   by_cases hx:x.tag=4
   ·exact .inl ⟨0,x,rfl,hx,fun j u hj=>by omega⟩
   ·rcases ih with ⟨k,v,hv,ht,hno⟩|hno
    ·refine .inl ⟨k+1,v,by simpa using hv,ht,fun j u hj hu=> ?_⟩
     cases j with
     | zero=>simp at hu;subst hu;exact hx
     | succ j=>exact hno j u (by omega) (by simpa using hu)
    ·refine .inr fun j u hu=> ?_
     cases j with
     | zero=>simp at hu;subst hu;exact hx
     | succ j=>exact hno j u (by simpa using hu)
theorem idx_some {vs:List V} {r:Int} (h:IdxF vs r) {k:Nat} {v:V} (hv:vs[k]? =some v) (ht:v.tag=4) (hno:∀ j u,j<k->vs[j]? =some u->u.tag≠4):r=k:=by
 rcases h with ⟨k',v',rfl,hv',ht',hno'⟩|⟨_,hn⟩
 ·rcases Nat.lt_trichotomy k k' with h|h|h
  ·exact absurd ht (hno' k v h hv)
  ·rw[h]
  ·exact absurd ht' (hno k' v' h hv')
 ·exact absurd ht (hn k v hv)
theorem idx_none {vs:List V} {r:Int} (h:IdxF vs r) (hno:∀ (j:Nat) (u:V),vs[j]? =some u->u.tag≠4):r= -1:=by
 rcases h with ⟨k',v',rfl,hv',ht',hno'⟩|⟨e,_⟩
 ·exact absurd ht' (hno k' v' hv')
 ·exact e
theorem funcs_truthsV (fk:Nat) (fy:Nat->Nat->Bool) (hk:∀ (args:Array Value) (w:World),Sem.run Tryz.prog (callFunc fk args) w=.ok (.enter fk args) w)
  (hf:∀ (a b:Nat) (w:World),a<=b->b<=1000000000000->Calls Tryz.prog fk #[.int .i64 a,.int .i64 b] w fun e w'=>e=.returned (.bool (fy a b))/\w=w')
  (vs:List V) (p g n c:Nat) (w:World) (hn:vs.length=n) (hm:n<=1000000000000) (h0:0<n) (hp:w.cell? ⟨p,0,none⟩=some (.func (.func fk) #[] #[])) (h:Held w g vs) :
  Rt 152 #[.slice (some ⟨g,0,none⟩) n c,.pointer (some ⟨p,0,none⟩)] w (vG (zBM fy vs)):=by
 have H:=zh h
 have hpl:=World.block_lt_of_cell? w _ hp
 have hgl:g<w.heap.size:=by
  obtain⟨v,hv⟩:∃ v,vs[0]? =some v:=⟨_,List.getElem?_eq_getElem (show 0<vs.length by omega)⟩
  exact World.block_lt_of_cell? w _ (h.at 0 v hv 0 1 2 3 4 rfl rfl rfl rfl rfl).1
 have HF:=zh hf
 clear h hf
 have hH1:Held (w.alloc zeroV) g vs:=H.out.keeps kps
 unfold zeroV at hH1
 have HH1:=zh hH1
 clear hH1
 obtain⟨cnt,hc0,hcS,hcn,hcl⟩:∃ cnt:Nat->Nat,cnt 0=0/\(∀ j v,vs[j]? =some v->cnt (j+1)=cnt j+if (zAX v).1 then 1 else 0)/\cnt n=vs.countP (fun v=>(zAX v).1)/\∀ j,cnt j<=n:=by
  refine⟨fun j=>(vs.take j).countP fun v=>(zAX v).1,rfl,fun j v hv=>count_take hv,by simp only;rw[List.take_of_length_le (by omega)],fun j=> ?_⟩
  refine Nat.le_trans List.countP_le_length ?_
  rw[List.length_take]
  omega
 have HCS:=zh hcS
 have HCN:=zh hcn
 have HCL:=zh hcl
 clear hcS hcn hcl
 rcases fault_cases vs with ⟨k,v,hv,ht,hno⟩|hno
 ·obtain⟨v0,v1,v2,v3,v4⟩:=H.out.at k v hv _ _ _ _ _ rfl rfl rfl rfl rfl
  have hkn:k<n:=by have:=(List.getElem?_eq_some_iff.1 hv).1;omega
  have E:=zh (show zBM fy vs=v by unfold zBM;rw[find_first (p:=fun v=>v.tag==4) hv (by simp[ht]) (fun j u hj hu=>by simp[hno j u hj hu])])
  have HI:=zh (fun r (hr:IdxF vs r)=>idx_some hr hv ht hno)
  clear hv ht hno
  go_enter Tryz.func152,Tryz.ntmps152
  go_wp2_with(go_at_call 153;refine(index_fault vs g n c _ hn hm (by simp;omega) HH1.out).mono ?_;rintro e w1 ⟨⟨r,rfl,hr⟩,hb⟩;obtain rfl:=HI.out r hr;clear hr;obtain⟨l,q,rfl⟩:=zA0 hb;clear hb)
  go_returns
  exact⟨by rw[E.out],bel⟩
 ·have hF0:=zh (find_noF (p:=fun v=>v.tag==4) (vs:=vs) (fun j u hu=>by simp[hno j u hu]))
  have HI:=zh (fun r (hr:IdxF vs r)=>idx_none hr hno)
  clear hno
  go_enter Tryz.func152,Tryz.ntmps152
  go_wp2_with(go_at_call 153;refine(index_fault vs g n c _ hn hm (by simp;omega) HH1.out).mono ?_;rintro e w1 ⟨⟨r,rfl,hr⟩,hb⟩;obtain rfl:=HI.out r hr;clear hr;obtain⟨l,q,rfl⟩:=zA0 hb;clear hb)
  go_loopw [20,5] (fun t m wr=>∃ j:Nat,j<=n/\t=.int .i64 j/\m=.int .i64 (cnt j:Nat)/\(∀ i u,i<j->vs[i]? =some u->((zAX u).2 != 0)=false)/\Below (w.alloc zeroV).heap.size (w.alloc zeroV) wr) (fun t _ _=>n-(intOf t).toNat)
  case atStart=>exact⟨0,Nat.zero_le _,rfl,by rw[hc0];rfl,fun i u hi=>by omega,zAi (Nat.le_refl _)⟩
  case round =>
   obtain⟨j,hj,rfl,rfl,hz,hB⟩:=hrel
   obtain⟨l1,q1,rfl⟩:=zA0 hB
   clear hB
   unfold zeroV at *
   by_cases hlt:j<n
   ·obtain⟨v,hv⟩:∃ v,vs[j]? =some v:=⟨_,List.getElem?_eq_getElem (show j<vs.length by omega)⟩
    obtain⟨v0,v1,v2,v3,v4⟩:=H.out.at j v hv _ _ _ _ _ rfl rfl rfl rfl rfl
    have hcj:=zh (HCL.out j)
    have hcj':cnt j<=n:=HCL.out j
    have hst:=HCS.out j v hv
    by_cases hc:(zAX v).2=0
    ·have hc':((zAX v).2 != 0)=false:=by simp[hc]
     have HZ:=zh (show ∀ i u,i<j+1->vs[i]? =some u->((zAX u).2 != 0)=false from fun i u hi hu=>by
      by_cases e:i=j
      ·subst e;rw[hv] at hu;cases hu;exact hc'
      ·exact hz i u (by omega) hu)
     cases hb:(zAX v).1
     ·rw[hb] at hst
      have HST:=zh hst
      clear hz hc hv hst
      go_wp2_with(go_at_call 151;refine(zBI v _).mono ?_;rintro e w1 ⟨rfl,hb'⟩;obtain⟨l2,q2,rfl⟩:=zA0 hb';clear hb')
      go_roundw
      case rel=>exact⟨j+1,by omega,by go_num,by rw[HST.out];rfl,HZ.out,bel⟩
      case measure=>simp[intOf];omega
     ·rw[hb] at hst
      have HST:=zh hst
      clear hz hc hv hst
      go_wp2_with(go_at_call 151;refine(zBI v _).mono ?_;rintro e w1 ⟨rfl,hb'⟩;obtain⟨l2,q2,rfl⟩:=zA0 hb';clear hb')
      go_roundw
      case rel=>exact⟨j+1,by omega,by go_num,by rw[HST.out];rfl,HZ.out,bel⟩
      case measure=>simp[intOf];omega
    ·have hc':((zAX v).2 != 0)=true:=by simp[hc]
     have E:=zh (show zBM fy vs=errG (zAX v).2 by unfold zBM;rw[hF0.out,find_first (p:=fun v=>(zAX v).2 != 0) hv hc' (fun i u hi hu=>hz i u hi hu)])
     clear hz hc hv hst
     go_wp2_with(first|(go_at_call 151;refine(zBI v _).mono ?_;rintro e w1 ⟨rfl,hb'⟩;obtain⟨l2,q2,rfl⟩:=zA0 hb';clear hb')|(go_at_call 21;refine(zA3 _ _).mono ?_;rintro e w1 ⟨rfl,hb'⟩;obtain⟨l3,q3,rfl⟩:=zA0 hb';clear hb'))
     go_returns
     exact⟨by rw[E.out],bel⟩
   ·obtain rfl:j=n:=by omega
    have hcj':cnt j<=j:=HCL.out j
    have E:=zh (show zBM fy vs=zC1 (fy (cnt j) j) by unfold zBM;rw[hF0.out,find_noF (p:=fun v=>(zAX v).2 != 0) (fun i u hu=>hz i u (by have:=(List.getElem?_eq_some_iff.1 hu).1;omega) hu),HCN.out,hn])
    clear hz
    go_wp2_with(first|(with_reducible refine Calls.mono (HF.out (cnt j) j _ hcj' hm) ?_;rintro e w2 ⟨rfl,rfl⟩)|(go_at_call 66;refine(zB2 _ _).mono ?_;rintro e w1 ⟨rfl,hb'⟩;obtain⟨l3,q3,rfl⟩:=zA0 hb';clear hb'))
    go_returns
    exact⟨by rw[E.out],bel⟩
def fyAnd (a b:Nat):Bool:=(a:Int)==(b:Int)
def fyOr (a _:Nat):Bool:=decide (0<a)
def fyXor (a _:Nat):Bool:=(a:Int).tmod 2==1
def fyNot (a _:Nat):Bool:=(a:Int)==0
theorem own1_ok (a b:Nat) (w:World) (h:a<=b) (hb:b<=1000000000000):Calls Tryz.prog 118 #[.int .i64 a,.int .i64 b] w fun e w'=>e=.returned (.bool (fyAnd a b))/\w=w':=by
 unfold fyAnd
 go_enter Tryz.func118,Tryz.ntmps118
 go_wp2
 go_ret
 exact⟨rfl,rfl⟩
theorem own2_ok (a b:Nat) (w:World) (h:a<=b) (hb:b<=1000000000000):Calls Tryz.prog 119 #[.int .i64 a,.int .i64 b] w fun e w'=>e=.returned (.bool (fyOr a b))/\w=w':=by
 unfold fyOr
 go_enter Tryz.func119,Tryz.ntmps119
 go_wp2
 go_ret
 exact⟨rfl,rfl⟩
theorem own4_ok (a b:Nat) (w:World) (h:a<=b) (hb:b<=1000000000000):Calls Tryz.prog 121 #[.int .i64 a,.int .i64 b] w fun e w'=>e=.returned (.bool (fyNot a b))/\w=w':=by
 unfold fyNot
 go_enter Tryz.func121,Tryz.ntmps121
 go_wp2
 go_ret
 exact⟨rfl,rfl⟩
theorem may_fault {x:V} (h:mayG x=true) (h4:x.tag=4):x=⟨4,0,⟨#[]⟩,false,x.code⟩/\1<=x.code/\x.code<=8:=by
 unfold mayG at h
 simp only[Bool.and_eq_true] at h
 obtain⟨⟨_,h2⟩,h3⟩:=h
 have e:=of_decide_eq_true (show decide (bareG x=⟨x.tag,0,⟨#[]⟩,false,0⟩)=true from h2)
 obtain⟨a,b,s,c,d⟩:=x
 simp only at h4
 subst h4
 simp[bareG] at e
 obtain⟨rfl,rfl,rfl⟩:=e
 simp[isCode] at h3
 exact⟨rfl,h3.1,h3.2⟩
theorem may_tag {x:V} (h:mayG x=true):0<=x.tag/\x.tag<=4:=by
 unfold mayG at h
 simp only[Bool.and_eq_true,decide_eq_true_eq] at h
 exact h.1.1
theorem may_truth (b:Bool):mayG (zC1 b)=true:=by cases b<;>decide +kernel
theorem may_err (c:Int):mayG (errG c)=true:=by
 unfold errG errC isCode
 split
 ·rename_i h
  simp only[Bool.and_eq_true,decide_eq_true_eq] at h
  have hd:c=1∨c=2∨c=3∨c=4∨c=5∨c=6∨c=7∨c=8:=by omega
  rcases hd with rfl|rfl|rfl|rfl|rfl|rfl|rfl|rfl<;>decide +kernel
 ·decide +kernel
def ownDo (s:ByteArray) (vs:List V):V :=
 if (⟨#[65,83,75]⟩:ByteArray)=s then errG 8 else
 if (⟨#[67,72,79,79,83,69]⟩:ByteArray)=s then zC5 vs else
 if (⟨#[69,82,82]⟩:ByteArray)=s then faultG (vs.getD 0 ⟨0,0,⟨#[]⟩,false,0⟩) else
 if (⟨#[69,82,82,78,79]⟩:ByteArray)=s then errnoG (vs.getD 0 ⟨0,0,⟨#[]⟩,false,0⟩) else
 if (⟨#[84,89,80,69]⟩:ByteArray)=s then typeG (vs.getD 0 ⟨0,0,⟨#[]⟩,false,0⟩) else
 if (⟨#[73,83,66,79,79,76]⟩:ByteArray)=s then zC1 ((vs.getD 0 ⟨0,0,⟨#[]⟩,false,0⟩).tag==3) else
 if (⟨#[73,83,84,69,88,84]⟩:ByteArray)=s then zC1 ((vs.getD 0 ⟨0,0,⟨#[]⟩,false,0⟩).tag==2) else
 if (⟨#[73,83,78,85,77]⟩:ByteArray)=s then zC1 ((vs.getD 0 ⟨0,0,⟨#[]⟩,false,0⟩).tag==1) else
 if (⟨#[73,83,66,76,65,78,75]⟩:ByteArray)=s then zC1 ((vs.getD 0 ⟨0,0,⟨#[]⟩,false,0⟩).tag==0) else
 if (⟨#[73,83,69,82,82]⟩:ByteArray)=s then zC1 ((vs.getD 0 ⟨0,0,⟨#[]⟩,false,0⟩).tag==4) else
 if (⟨#[73,70,69,82,82]⟩:ByteArray)=s then iferrG vs else
 if (⟨#[78,79,84]⟩:ByteArray)=s then zBM fyNot vs else
 if (⟨#[88,79,82]⟩:ByteArray)=s then zBM fyXor vs else
 if (⟨#[79,82]⟩:ByteArray)=s then zBM fyOr vs else
 if (⟨#[65,78,68]⟩:ByteArray)=s then zBM fyAnd vs else
 if (⟨#[73,70]⟩:ByteArray)=s then zB6 vs else
 errG 8
theorem own3_ok (a b:Nat) (w:World) (h:a<=b) (hb:b<=1000000000000):Calls Tryz.prog 120 #[.int .i64 a,.int .i64 b] w fun e w'=>e=.returned (.bool (fyXor a b))/\w=w':=by
 go_enter Tryz.func120,Tryz.ntmps120
 go_wp2
 go_ret
 exact⟨rfl,rfl⟩
theorem own_do {s:ByteArray} {x y:Int} {d:Doer} (ho:zAz s=some (x,y,d)) (xs:List Arg) (A:Option Addr) (n c B:Nat) (tx:Int) (w:World) (pd:Nat) (f:Value) (hc:w.cell? ⟨pd,0,none⟩=some f) (hD:DoOK w f d) (hr:Reads w B 11 A n (zBC xs)) (hm:n<=1000000000000)
  (hbt:between x y n=true) (h64:∀ v∈xs.map Arg.val,-9223372036854775808<=v.num/\v.num<=9223372036854775807) (hv:∀ v∈xs.map Arg.val,mayG v=true) :
  Rt 150 #[.slice A n c,.int .i64 tx,.pointer (some ⟨pd,0,none⟩)] w (vG (ownDo s (xs.map Arg.val))):=by
 have hlen:xs.length=n:=by
  have:=hr.1
  rw[zAo] at this
  omega
 have h0:0<n:=by
  have hx:=(ownTab_lows ho).1
  simp only[between,Bool.and_eq_true,decide_eq_true_eq] at hbt
  omega
 have hg0:∀ k,(∀ (args:Array Value) (w:World),Sem.run Tryz.prog (callFunc k args) w=.ok (.enter k args) w)->f=.func (.func k) #[] #[]->∀ r:V,(∀ w' g c',Held w' g (xs.map Arg.val)->Calls Tryz.prog k #[.slice (some ⟨g,0,none⟩) n c'] w' fun e w''=>e=.returned (vG r)/\Below w'.heap.size w' w'') ->
   Rt 150 #[.slice A n c,.int .i64 tx,.pointer (some ⟨pd,0,none⟩)] w (vG r):=fun k hk hf r hd=>by
  subst hf
  exact gather0 pd k hk tx xs A n c B w hc hr hm h0 r fun w' g c' _ hH=>hd w' g c' hH
 have hg1:∀ k p,(∀ (args:Array Value) (w:World),Sem.run Tryz.prog (callFunc k args) w=.ok (.enter k args) w)->f=.func (.func k) #[] #[.pointer (some ⟨p,0,none⟩)]->∀ r:V,(∀ w' g c',Below w.heap.size w w'->Held w' g (xs.map Arg.val)->Calls Tryz.prog k #[.slice (some ⟨g,0,none⟩) n c',.pointer (some ⟨p,0,none⟩)] w' fun e w''=>e=.returned (vG r)/\Below w'.heap.size w' w'') ->
   Rt 150 #[.slice A n c,.int .i64 tx,.pointer (some ⟨pd,0,none⟩)] w (vG r):=fun k p hk hf r hd=>by
  subst hf
  exact gather1 pd k p hk tx xs A n c B w hc hr hm h0 r fun w' g c' hb' hH=>hd w' g c' hb' hH
 obtain⟨vs,hvs⟩:∃ vs,xs.map Arg.val=vs:=⟨_,rfl⟩
 have hvl:vs.length=n:=by rw[<- hvs,List.length_map,hlen]
 rw[hvs] at h64 hv hg0 hg1 ⊢
 simp only[between,Bool.and_eq_true,decide_eq_true_eq] at hbt
 clear hr hc hvs hlen
 unfold zAz at ho
 unfold ownDo
 by_cases eASK:(⟨#[65,83,75]⟩:ByteArray)=s
 ·rw[if_pos eASK] at ho ⊢
  cases ho
  obtain rfl:n=1:=by omega
  match vs,hvl,h64,hv with
  | [v],_,h64,hv =>
    have h6:=h64 v (by simp)
    have hm1:=hv v (by simp)
    exact hg0 128 (fun _ _=>rfl) hD _ fun w' g c' hH=>funcs_ask v g c' w'
 rw[if_neg eASK] at ho ⊢
 by_cases eCHOOSE:(⟨#[67,72,79,79,83,69]⟩:ByteArray)=s
 ·rw[if_pos eCHOOSE] at ho ⊢
  cases ho
  match vs,hvl,h64 with
  | [],hvl,_=>exact absurd (show (0:Nat)=n from hvl) (by omega)
  | v::vs,hvl,h64 =>
    have h6:=h64 v (by simp)
    obtain rfl:n=vs.length+1:=by rw[<- hvl];rfl
    exact hg0 127 (fun _ _=>rfl) hD _ fun w' g c' hH=>funcs_choose v vs h6.1 h6.2 g c' (by omega) w' hH
 rw[if_neg eCHOOSE] at ho ⊢
 by_cases eERR:(⟨#[69,82,82]⟩:ByteArray)=s
 ·rw[if_pos eERR] at ho ⊢
  cases ho
  obtain rfl:n=1:=by omega
  match vs,hvl,h64,hv with
  | [v],_,h64,hv =>
    have h6:=h64 v (by simp)
    have hm1:=hv v (by simp)
    exact hg0 126 (fun _ _=>rfl) hD _ fun w' g c' hH=>funcs_fault v h6.1 h6.2 g c' w' hH
 rw[if_neg eERR] at ho ⊢
 by_cases eERRNO:(⟨#[69,82,82,78,79]⟩:ByteArray)=s
 ·rw[if_pos eERRNO] at ho ⊢
  cases ho
  obtain rfl:n=1:=by omega
  match vs,hvl,h64,hv with
  | [v],_,h64,hv =>
    have h6:=h64 v (by simp)
    have hm1:=hv v (by simp)
    exact hg0 125 (fun _ _=>rfl) hD _ fun w' g c' hH=>funcs_errno v (fun h=>by have:=may_fault hm1 h;simp[isCode];omega) g c' w' hH
 rw[if_neg eERRNO] at ho ⊢
 by_cases eTYPE:(⟨#[84,89,80,69]⟩:ByteArray)=s
 ·rw[if_pos eTYPE] at ho ⊢
  cases ho
  obtain rfl:n=1:=by omega
  match vs,hvl,h64,hv with
  | [v],_,h64,hv =>
    have h6:=h64 v (by simp)
    have hm1:=hv v (by simp)
    exact hg0 124 (fun _ _=>rfl) hD _ fun w' g c' hH=>funcs_type v (may_tag hm1).1 (may_tag hm1).2 g c' w' hH
 rw[if_neg eTYPE] at ho ⊢
 by_cases eISBOOL:(⟨#[73,83,66,79,79,76]⟩:ByteArray)=s
 ·rw[if_pos eISBOOL] at ho ⊢
  cases ho
  obtain⟨p,hf,hp,_⟩:=hD
  obtain rfl:n=1:=by omega
  match vs,hvl,h64,hv with
  | [v],_,h64,hv =>
    have h6:=h64 v (by simp)
    have hm1:=hv v (by simp)
    exact hg1 155 p (fun _ _=>rfl) hf _ fun w' g c' hb' hH=>funcs_is1 3 v p g c' w' ((zAr hb').cell _ _ _ hp) hH
 rw[if_neg eISBOOL] at ho ⊢
 by_cases eISTEXT:(⟨#[73,83,84,69,88,84]⟩:ByteArray)=s
 ·rw[if_pos eISTEXT] at ho ⊢
  cases ho
  obtain⟨p,hf,hp,_⟩:=hD
  obtain rfl:n=1:=by omega
  match vs,hvl,h64,hv with
  | [v],_,h64,hv =>
    have h6:=h64 v (by simp)
    have hm1:=hv v (by simp)
    exact hg1 155 p (fun _ _=>rfl) hf _ fun w' g c' hb' hH=>funcs_is1 2 v p g c' w' ((zAr hb').cell _ _ _ hp) hH
 rw[if_neg eISTEXT] at ho ⊢
 by_cases eISNUM:(⟨#[73,83,78,85,77]⟩:ByteArray)=s
 ·rw[if_pos eISNUM] at ho ⊢
  cases ho
  obtain⟨p,hf,hp,_⟩:=hD
  obtain rfl:n=1:=by omega
  match vs,hvl,h64,hv with
  | [v],_,h64,hv =>
    have h6:=h64 v (by simp)
    have hm1:=hv v (by simp)
    exact hg1 155 p (fun _ _=>rfl) hf _ fun w' g c' hb' hH=>funcs_is1 1 v p g c' w' ((zAr hb').cell _ _ _ hp) hH
 rw[if_neg eISNUM] at ho ⊢
 by_cases eISBLANK:(⟨#[73,83,66,76,65,78,75]⟩:ByteArray)=s
 ·rw[if_pos eISBLANK] at ho ⊢
  cases ho
  obtain⟨p,hf,hp,_⟩:=hD
  obtain rfl:n=1:=by omega
  match vs,hvl,h64,hv with
  | [v],_,h64,hv =>
    have h6:=h64 v (by simp)
    have hm1:=hv v (by simp)
    exact hg1 155 p (fun _ _=>rfl) hf _ fun w' g c' hb' hH=>funcs_is1 0 v p g c' w' ((zAr hb').cell _ _ _ hp) hH
 rw[if_neg eISBLANK] at ho ⊢
 by_cases eISERR:(⟨#[73,83,69,82,82]⟩:ByteArray)=s
 ·rw[if_pos eISERR] at ho ⊢
  cases ho
  obtain⟨p,hf,hp,_⟩:=hD
  obtain rfl:n=1:=by omega
  match vs,hvl,h64,hv with
  | [v],_,h64,hv =>
    have h6:=h64 v (by simp)
    have hm1:=hv v (by simp)
    exact hg1 155 p (fun _ _=>rfl) hf _ fun w' g c' hb' hH=>funcs_is1 4 v p g c' w' ((zAr hb').cell _ _ _ hp) hH
 rw[if_neg eISERR] at ho ⊢
 by_cases eIFERR:(⟨#[73,70,69,82,82]⟩:ByteArray)=s
 ·rw[if_pos eIFERR] at ho ⊢
  cases ho
  obtain rfl:n=2:=by omega
  match vs,hvl with
  | [u,v],_=>exact hg0 122 (fun _ _=>rfl) hD _ fun w' g c' hH=>funcs_iferr u v g c' w' hH
 rw[if_neg eIFERR] at ho ⊢
 by_cases eNOT:(⟨#[78,79,84]⟩:ByteArray)=s
 ·rw[if_pos eNOT] at ho ⊢
  cases ho
  obtain⟨p,hf,hp⟩:=hD
  exact hg1 152 p (fun _ _=>rfl) hf _ fun w' g c' hb' hH=>funcs_truthsV 121 fyNot (fun _ _=>rfl) (fun a b w h hb=>own4_ok a b w h hb) vs p g n c' w' hvl hm h0 ((zAr hb').cell _ _ _ hp) hH
 rw[if_neg eNOT] at ho ⊢
 by_cases eXOR:(⟨#[88,79,82]⟩:ByteArray)=s
 ·rw[if_pos eXOR] at ho ⊢
  cases ho
  obtain⟨p,hf,hp⟩:=hD
  exact hg1 152 p (fun _ _=>rfl) hf _ fun w' g c' hb' hH=>funcs_truthsV 120 fyXor (fun _ _=>rfl) (fun a b w h hb=>own3_ok a b w h hb) vs p g n c' w' hvl hm h0 ((zAr hb').cell _ _ _ hp) hH
 rw[if_neg eXOR] at ho ⊢
 by_cases eOR:(⟨#[79,82]⟩:ByteArray)=s
 ·rw[if_pos eOR] at ho ⊢
  cases ho
  obtain⟨p,hf,hp⟩:=hD
  exact hg1 152 p (fun _ _=>rfl) hf _ fun w' g c' hb' hH=>funcs_truthsV 119 fyOr (fun _ _=>rfl) (fun a b w h hb=>own2_ok a b w h hb) vs p g n c' w' hvl hm h0 ((zAr hb').cell _ _ _ hp) hH
 rw[if_neg eOR] at ho ⊢
 by_cases eAND:(⟨#[65,78,68]⟩:ByteArray)=s
 ·rw[if_pos eAND] at ho ⊢
  cases ho
  obtain⟨p,hf,hp⟩:=hD
  exact hg1 152 p (fun _ _=>rfl) hf _ fun w' g c' hb' hH=>funcs_truthsV 118 fyAnd (fun _ _=>rfl) (fun a b w h hb=>own1_ok a b w h hb) vs p g n c' w' hvl hm h0 ((zAr hb').cell _ _ _ hp) hH
 rw[if_neg eAND] at ho ⊢
 by_cases eIF:(⟨#[73,70]⟩:ByteArray)=s
 ·rw[if_pos eIF] at ho ⊢
  cases ho
  obtain rfl|rfl:n=2∨n=3:=by omega
  ·match vs,hvl with
   | [u,v],_=>exact hg0 116 (fun _ _=>rfl) hD _ fun w' g c' hH=>funcs_choice2 u v g c' w' hH
  ·match vs,hvl with
   | [t,u,v],_=>exact hg0 116 (fun _ _=>rfl) hD _ fun w' g c' hH=>funcs_choice3 t u v g c' w' hH
 rw[if_neg eIF] at ho ⊢
 cases ho
end Go.Proofs.YtppghgnhlgoagaaGreatDoor
