/- Parts. -/
import Derived.Test.YtnccknhbplaieaaGreatDoorC02
import Derived.Laws.EntriesVeiled
set_option linter.all false
set_option maxRecDepth 100000
set_option maxHeartbeats 4000000
namespace Go.Proofs.YtnccknhbplaieaaGreatDoor
open Go Go.RowKit Go.Proofs.Tryz
open Go.Lib renaming hid->zh
open _root_.List renaming map_cons->Q3
inductive Doer where
 | plain (k:Nat)
 | truths (k:Nat)
 | tagged (t:Int)
def DoOK (w:World) (f:Value):Doer->Prop
 | .plain k=>f=.func (.func k) #[] #[]
 | .truths k=>∃ p,f=.func (.func 179) #[] #[.pointer (some ⟨p,0,none⟩)]/\w.cell? ⟨p,0,none⟩=some (.func (.func k) #[] #[])
 | .tagged t=>∃ p,f=.func (.func 182) #[] #[.pointer (some ⟨p,0,none⟩)]/\w.cell? ⟨p,0,none⟩=some (.int .i64 t)/\OneCell w p
def OwnE (w:World) (v:Value) (x y:Int) (d:Doer):Prop:=∃ pl pm pd f,v=.agg #[.func (.func 175) #[] #[.pointer (some ⟨pl,0,none⟩),.pointer (some ⟨pm,0,none⟩)],.func (.func 176) #[] #[.pointer (some ⟨pd,0,none⟩)]] /\
 w.cell? ⟨pl,0,none⟩=some (.int .i64 x)/\w.cell? ⟨pm,0,none⟩=some (.int .i64 y)/\w.cell? ⟨pd,0,none⟩=some f/\DoOK w f d
theorem DoOK.keeps {w w':World} {f:Value} {d:Doer} (h:DoOK w f d) (hk:Keeps w w'):DoOK w' f d:=by
 cases d with
 | plain k=>exact h
 | truths k=>obtain⟨p,h1,h2⟩:=h;exact⟨p,h1,hk.cell _ _ _ h2⟩
 | tagged t=>obtain⟨p,h1,h2,h3⟩:=h;exact⟨p,h1,hk.cell _ _ _ h2,hk.one _ h3⟩
theorem OwnE.keeps {w w':World} {v:Value} {x y:Int} {d:Doer} (h:OwnE w v x y d) (hk:Keeps w w'):OwnE w' v x y d:=by
 obtain⟨pl,pm,pd,f,e,h1,h2,h3,h4⟩:=h;exact⟨pl,pm,pd,f,e,hk.cell _ _ _ h1,hk.cell _ _ _ h2,hk.cell _ _ _ h3,h4.keeps hk⟩
theorem funcs_singles (x y:Int) (fn:Fn) (cap:Array Value) (d:Doer) (w:World) (hd:DoOK w (.func fn #[] cap) d):Calls prog 130 #[.int .i64 x,.int .i64 y,.func fn #[] cap] w fun e w'=>(∃ v,e=.returned v/\OwnE w' v x y d)/\Below w.heap.size w w':=by
 have HD:=zh hd;clear hd;go_enter func130,ntmps130;go_wp2;go_returns;refine⟨⟨_,rfl,_,_,_,_,rfl,?_,?_,?_,HD.out.keeps kps⟩,bel⟩;all_goals go_simp
theorem funcs_truths (k:Nat) (w:World):Calls prog 132 #[.func (.func k) #[] #[]] w fun e w'=>(∃ fn cap,e=.returned (.func fn #[] cap)/\DoOK w' (.func fn #[] cap) (.truths k))/\Below w.heap.size w w':=by
 go_enter func132,ntmps132;go_wp2;go_ret;refine⟨⟨_,_,rfl,_,rfl,?_⟩,bel⟩;go_simp
theorem funcs_is (t:Int) (w:World):Calls prog 138 #[.int .i64 t] w fun e w'=>(∃ v,e=.returned v/\OwnE w' v 1 1 (.tagged t))/\Below w.heap.size w w':=by
 go_enter func138,ntmps138;go_wp2;go_returns;refine⟨⟨_,rfl,_,_,_,_,rfl,?_,?_,?_,w.heap.size,rfl,?_,(show Keeps (w.alloc (.cells #[.int .i64 t] 26)) _ from kps).one _ (one_alloc _ _ _)⟩,bel⟩;all_goals go_simp
def zAg (s:ByteArray):Option (Int×Int×Doer) :=
 if (⟨#[65,83,75]⟩:ByteArray)=s then some (1,1,.plain 144) else
 if (⟨#[67,72,79,79,83,69]⟩:ByteArray)=s then some (2,16,.plain 143) else
 if (⟨#[69,82,82]⟩:ByteArray)=s then some (1,1,.plain 142) else
 if (⟨#[69,82,82,78,79]⟩:ByteArray)=s then some (1,1,.plain 141) else
 if (⟨#[84,89,80,69]⟩:ByteArray)=s then some (1,1,.plain 139) else
 if (⟨#[73,83,66,79,79,76]⟩:ByteArray)=s then some (1,1,.tagged 3) else
 if (⟨#[73,83,84,69,88,84]⟩:ByteArray)=s then some (1,1,.tagged 2) else
 if (⟨#[73,83,78,85,77]⟩:ByteArray)=s then some (1,1,.tagged 1) else
 if (⟨#[73,83,66,76,65,78,75]⟩:ByteArray)=s then some (1,1,.tagged 0) else
 if (⟨#[73,83,69,82,82]⟩:ByteArray)=s then some (1,1,.tagged 4) else
 if (⟨#[73,70,69,82,82]⟩:ByteArray)=s then some (2,2,.plain 137) else
 if (⟨#[78,79,84]⟩:ByteArray)=s then some (1,1,.truths 136) else
 if (⟨#[88,79,82]⟩:ByteArray)=s then some (1,16,.truths 135) else
 if (⟨#[79,82]⟩:ByteArray)=s then some (1,16,.truths 134) else
 if (⟨#[65,78,68]⟩:ByteArray)=s then some (1,16,.truths 133) else
 if (⟨#[73,70]⟩:ByteArray)=s then some (2,3,.plain 131) else none
def isOwn (s:ByteArray):Bool :=
 if (⟨#[65,83,75]⟩:ByteArray)=s then true else
 if (⟨#[67,72,79,79,83,69]⟩:ByteArray)=s then true else
 if (⟨#[69,82,82]⟩:ByteArray)=s then true else
 if (⟨#[69,82,82,78,79]⟩:ByteArray)=s then true else
 if (⟨#[84,89,80,69]⟩:ByteArray)=s then true else
 if (⟨#[73,83,66,79,79,76]⟩:ByteArray)=s then true else
 if (⟨#[73,83,84,69,88,84]⟩:ByteArray)=s then true else
 if (⟨#[73,83,78,85,77]⟩:ByteArray)=s then true else
 if (⟨#[73,83,66,76,65,78,75]⟩:ByteArray)=s then true else
 if (⟨#[73,83,69,82,82]⟩:ByteArray)=s then true else
 if (⟨#[73,70,69,82,82]⟩:ByteArray)=s then true else
 if (⟨#[78,79,84]⟩:ByteArray)=s then true else
 if (⟨#[88,79,82]⟩:ByteArray)=s then true else
 if (⟨#[79,82]⟩:ByteArray)=s then true else
 if (⟨#[65,78,68]⟩:ByteArray)=s then true else
 if (⟨#[73,70]⟩:ByteArray)=s then true else false
def OwnInv (w0:World) (b:Nat) (L:List (ByteArray×Value)) (w:World):Prop:=Below w0.heap.size w0 w/\w0.heap.size<=b/\w.heap[b]? =some (.map (ents L 0).toArray L.length) /\
 (∀ s v,getU s L=some v->∃ x y d,zAg s=some (x,y,d)/\OwnE w v x y d)/\(L.map (·.1)).Nodup
theorem ups_keys (k:ByteArray) (v:Value) (L:List (ByteArray×Value)):(k∈L.map (·.1)->(ups k v L).map (·.1)=L.map (·.1))/\(¬ k∈L.map (·.1)->(ups k v L).map (·.1)=L.map (·.1)++[k]):=by
 induction L with
 | nil=>exact⟨(fun h=>by simp at h),(fun _=>rfl)⟩
 | cons p L ih =>
   unfold ups;by_cases h:p.1=k
   ·rw[if_pos h];exact⟨fun _=>by simp[h],fun hn=>absurd (by simp[h]) hn⟩
   ·rw[if_neg h];refine⟨fun hm=> ?_,fun hn=> ?_⟩
    ·have ha:k∈L.map (·.1):=by
      rw[Q3,List.mem_cons] at hm;exact hm.elim (fun e=>absurd e.symm h) id
     rw[Q3,ih.1 ha];rfl
    ·have hb: ¬ k∈L.map (·.1):=fun hm=>hn (List.mem_cons_of_mem _ hm);rw[Q3,ih.2 hb];rfl
theorem ups_nodup (k:ByteArray) (v:Value) {L:List (ByteArray×Value)} (h:(L.map (·.1)).Nodup):((ups k v L).map (·.1)).Nodup:=by
 by_cases hm:k∈L.map (·.1)
 ·rw[(ups_keys k v L).1 hm];exact h
 ·rw[(ups_keys k v L).2 hm];exact List.nodup_append.2 ⟨h,by simp,fun a ha b hb e=>by simp at hb;subst hb;subst e;exact hm ha⟩
theorem ownInv_start (w:World):OwnInv w w.heap.size [] (w.alloc (.map #[] 0)) :=
 ⟨(Below.refl _ _).alloc (Nat.le_refl _) _,Nat.le_refl _,by rw[(MapKept.heap_alloc w _).1];rfl,(fun s v h=>by cases h),List.nodup_nil⟩
theorem setMap_self {w:World} {b:Nat} {L:List (ByteArray×Value)} (h:w.heap[b]? =some (.map (ents L 0).toArray L.length)):zAE w b L=w:=by
 have ha:b<w.heap.size:=(Array.getElem?_eq_some_iff.1 h).1;have e:w.heap.setIfInBounds b (.map (ents L 0).toArray L.length)=w.heap:=by
  apply Array.ext_getElem?;intro i;rw[Array.getElem?_setIfInBounds];by_cases hi:b=i
  ·subst hi;rw[if_pos rfl,if_pos ha,h]
  ·rw[if_neg hi]
 unfold zAE;rw[e]
theorem keeps_setMap {w:World} {b:Nat} {L L':List (ByteArray×Value)} (h:w.heap[b]? =some (.map (ents L 0).toArray L.length)):Keeps w (zAE w b L'):=by
 refine⟨fun n i v hv=> ?_,fun n hn=>⟨by simpa using hn.1,fun i v hv=> ?_⟩⟩
 ·by_cases e:b=n
  ·subst e;unfold World.cell? at hv;rw[h] at hv;cases hv
  ·rw[setMap_cell e];exact hv
 ·by_cases e:b=n
  ·subst e;unfold World.cell? at hv;rw[setMap_at (Array.getElem?_eq_some_iff.1 h).1] at hv;cases hv
  ·rw[setMap_cell e] at hv;exact hn.2 i v hv
theorem OwnInv.below {w0 w w1:World} {b:Nat} {L:List (ByteArray×Value)} (h:OwnInv w0 b L w) (hb:Below w.heap.size w w1):OwnInv w0 b L w1:=by
 obtain⟨h1,h2,h3,h4,h5⟩:=h;have ha:b<w.heap.size:=(Array.getElem?_eq_some_iff.1 h3).1;refine⟨h1.trans (hb.mono h1.size),h2,(hb.block b ha).trans h3,fun s v hv=> ?_,h5⟩;obtain⟨x,y,d,e,he⟩:=h4 s v hv;exact⟨x,y,d,e,he.keeps (zAr hb)⟩
theorem OwnInv.store {w0 w:World} {b:Nat} {L:List (ByteArray×Value)} {v:Value} {x y:Int} {d:Doer} (h:OwnInv w0 b L w) (s:ByteArray) (hE:OwnE w v x y d) (hs:zAg s=some (x,y,d)) :
  (Instr.mapUpdate 44 (.map (some b)) (.string s) v).run prog w=.ok () (zAE w b (ups s v L))/\OwnInv w0 b (ups s v L) (zAE w b (ups s v L)):=by
 obtain⟨h1,h2,h3,h4,h5⟩:=h;have ha:b<w.heap.size:=(Array.getElem?_eq_some_iff.1 h3).1;have hk:Keeps w (zAE w b (ups s v L)):=keeps_setMap h3;refine⟨?_,zBk h1 h2,h2,setMap_at ha,fun s' v' hv=> ?_,ups_nodup s v h5⟩
 ·have:=run_storeS (P:=prog) underlying9 underlying44 w ha s v L;rw[setMap_self h3] at this;exact this
 ·rw[getU_ups] at hv;by_cases e:s=s'
  ·subst e;rw[if_pos rfl] at hv;cases hv;exact⟨x,y,d,hs,hE.keeps hk⟩
  ·rw[if_neg e] at hv;obtain⟨x',y',d',e',he⟩:=h4 s' v' hv;exact⟨x',y',d',e',he.keeps hk⟩
theorem isSome_ups (k s:ByteArray) (v:Value) (L:List (ByteArray×Value)):(getU s (ups k v L)).isSome=if k=s then true else (getU s L).isSome:=by
 rw[getU_ups];by_cases h:k=s<;>simp[h]
section
variable {ops:Array Oper} {rest:List Oper} {a:Act} {Q:Exit->Act->World->Prop}
theorem wpList_insI {w0 w:World} {b:Nat} {L:List (ByteArray×Value)} {v:Value} {x y:Int} {d:Doer} (h:OwnInv w0 b L w) (hE:OwnE w v x y d) (m k u:Operand) {ty:TypeId} {pos:String} {after:Array Edge} (s:ByteArray)
  (hm:a.eval m=.map (some b)) (hk:a.eval k=.string s) (hu:a.eval u=v) (hs:zAg s=some (x,y,d)) (hK:∀ w',OwnInv w0 b (ups s v L) w'->wpList prog ops Q rest a w') :
  wpList prog ops Q (⟨none,.insert 44 m k u,ty,pos,after,none⟩::rest) a w:=by
 refine wpList_plain rfl fun K' hK'=> ?_;have h1:=(h.store s hE hs).1;have h2:=(h.store s hE hs).2;unfold Oper.wp;simp[execOp,hm,hk,hu,h1,Result.andThen];exact hK' _ _ (hK _ h2)
end
def OwnSays (w:World) (e:Ending) (w':World):Prop:=∃ b L,e=.returned (.map (some b))/\OwnInv w b L w'/\∀ s,(getU s L).isSome=isOwn s
theorem funcs_own (w:World):Calls prog 73 #[] w fun e w'=>OwnSays w e w':=by
 have hT:=ownInv_start w;have hmk:= @run_makeMap prog;go_enter func73,ntmps73;go_wp2_with(first
  | (go_at_call 130;refine(funcs_singles _ _ _ _ _ _ hF).mono ?_;clear hF;rintro e w1 ⟨⟨v,rfl,hE⟩,hb⟩;replace hT:=hT.below hb;clear hb)
  | (go_at_call 130;refine(funcs_singles _ _ _ _ (.plain _) _ rfl).mono ?_;rintro e w1 ⟨⟨v,rfl,hE⟩,hb⟩;replace hT:=hT.below hb;clear hb)
  | (go_at_call 138;refine(funcs_is _ _).mono ?_;rintro e w1 ⟨⟨v,rfl,hE⟩,hb⟩;replace hT:=hT.below hb;clear hb)
  | (go_at_call 132;refine(funcs_truths _ _).mono ?_;rintro e w1 ⟨⟨fn,cap,rfl,hF⟩,hb⟩;replace hT:=hT.below hb;clear hb)
  | (refine wpList_insI hT hE _ _ _ _ rfl rfl rfl (by kernel_rfl) ?_;clear hT hE;intro w2 hT))
 go_ret;refine⟨_,_,rfl,hT,fun s=> ?_⟩;simp only[isSome_ups]
 rfl
end Go.Proofs.YtnccknhbplaieaaGreatDoor
