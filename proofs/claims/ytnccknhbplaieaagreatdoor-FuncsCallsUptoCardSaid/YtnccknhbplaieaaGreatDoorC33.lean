/- Parts. -/
import Derived.Test.YtnccknhbplaieaaGreatDoorC03
import Derived.Test.YtnccknhbplaieaaGreatDoorC18
import Derived.Test.YtnccknhbplaieaaGreatDoorC21
set_option linter.all false
set_option maxRecDepth 100000
set_option maxHeartbeats 4000000
namespace Go.Proofs.YtnccknhbplaieaaGreatDoor
open Go Go.RowKit Go.Proofs.Tryz
open Go.Lib renaming hid->zh
open Go.World renaming block_lt_of_cell?->Q3,cell?_alloc_at->Q5
open _root_.List renaming getElem?_eq_getElem->Q4
def namesL:List ByteArray:=[⟨#[65,66,83]⟩,
 ⟨#[83,73,71,78]⟩,
 ⟨#[73,78,84]⟩,
 ⟨#[84,82,85,78,67]⟩,
 ⟨#[82,79,85,78,68]⟩,
 ⟨#[70,76,79,79,82]⟩,
 ⟨#[67,69,73,76]⟩,
 ⟨#[77,79,68]⟩,
 ⟨#[81,85,79,84]⟩,
 ⟨#[80,79,87,69,82]⟩,
 ⟨#[83,81,82,84]⟩,
 ⟨#[71,67,68]⟩,
 ⟨#[76,67,77]⟩,
 ⟨#[70,65,67,84]⟩,
 ⟨#[67,76,65,77,80]⟩,
 ⟨#[79,68,68]⟩,
 ⟨#[76,69,78]⟩,
 ⟨#[76,69,70,84]⟩,
 ⟨#[82,73,71,72,84]⟩,
 ⟨#[77,73,68]⟩,
 ⟨#[85,80,80,69,82]⟩,
 ⟨#[76,79,87,69,82]⟩,
 ⟨#[84,82,73,77]⟩,
 ⟨#[82,69,80,84]⟩,
 ⟨#[70,73,78,68]⟩,
 ⟨#[83,85,66,83,84]⟩,
 ⟨#[67,79,78,67,65,84]⟩,
 ⟨#[79,82,68]⟩,
 ⟨#[67,72,65,82]⟩,
 ⟨#[69,88,65,67,84]⟩,
 ⟨#[82,69,86]⟩,
 ⟨#[78,85,77]⟩,
 ⟨#[83,85,77]⟩,
 ⟨#[80,82,79,68]⟩,
 ⟨#[77,73,78]⟩,
 ⟨#[77,65,88]⟩,
 ⟨#[65,86,71]⟩,
 ⟨#[77,69,68,73,65,78]⟩,
 ⟨#[67,79,85,78,84]⟩,
 ⟨#[67,79,85,78,84,65]⟩,
 ⟨#[66,76,65,78,75,83]⟩,
 ⟨#[67,79,85,78,84,73,70]⟩,
 ⟨#[83,85,77,73,70]⟩,
 ⟨#[77,65,84,67,72]⟩,
 ⟨#[76,79,79,75,85,80]⟩,
 ⟨#[73,78,68,69,88]⟩,
 ⟨#[76,65,82,71,69]⟩,
 ⟨#[74,79,73,78]⟩,
 ⟨#[82,79,87,83]⟩,
 ⟨#[67,79,76,83]⟩]
def nmK (k:Nat):ByteArray:=namesL.getD k ⟨#[]⟩
def layK (k:Nat):Nat:=if k<16 then 0 else if k<32 then 1 else 2
theorem lay_num:∀ k,k<50->(zAd (nmK k)).isSome=decide (layK k=0):=by decide +kernel
theorem lay_text:∀ k,k<50->(zAT (nmK k)).isSome=decide (layK k=1):=by decide +kernel
theorem lay_agg:∀ k,k<50->(zAV (nmK k)).isSome=decide (layK k=2):=by decide +kernel
def layFn (i j:Nat):Nat:=if i=0 then (if j=0 then 74 else if j=1 then 75 else 76) else if i=1 then (if j=0 then 77 else if j=1 then 78 else 79) else (if j=0 then 80 else if j=1 then 81 else 82)
def layOf (s:ByteArray):Option Nat:=if (zAd s).isSome then some 0 else if (zAT s).isSome then some 1 else if (zAV s).isSome then some 2 else none
def LayE (w:World) (v:Value) (s:ByteArray) (i:Nat):Prop:=∃ pb pn,v=.agg #[.func (.func 83) #[] #[.pointer (some ⟨pb,0,none⟩),.pointer (some ⟨pn,0,none⟩)],.func (.func 84) #[] #[.pointer (some ⟨pb,0,none⟩),.pointer (some ⟨pn,0,none⟩)]] /\
 w.cell? ⟨pb,0,none⟩=some (.func (.func (layFn i 0)) #[] #[])/\w.cell? ⟨pb,1,none⟩=some (.func (.func (layFn i 1)) #[] #[])/\w.cell? ⟨pb,2,none⟩=some (.func (.func (layFn i 2)) #[] #[])/\w.cell? ⟨pn,0,none⟩=some (.string s)
theorem LayE.keeps {w w':World} {v:Value} {s:ByteArray} {i:Nat} (h:LayE w v s i) (hk:Keeps w w'):LayE w' v s i:=by
 obtain⟨pb,pn,e,h0,h1,h2,h3⟩:=h;exact⟨pb,pn,e,hk.cell _ _ _ h0,hk.cell _ _ _ h1,hk.cell _ _ _ h2,hk.cell _ _ _ h3⟩
def EntE (w:World) (s:ByteArray) (v:Value):Prop:=(∃ x y d,zAg s=some (x,y,d)/\OwnE w v x y d)∨(∃ i,layOf s=some i/\LayE w v s i)
theorem EntE.keeps {w w':World} {v:Value} {s:ByteArray} (h:EntE w s v) (hk:Keeps w w'):EntE w' s v:=by
 rcases h with ⟨x,y,d,e,h⟩|⟨i,e,h⟩
 ·exact .inl ⟨x,y,d,e,h.keeps hk⟩
 ·exact .inr ⟨i,e,h.keeps hk⟩
def zBG (w0:World) (b:Nat) (D:ByteArray->Bool) (w:World):Prop:=∃ L,Below w0.heap.size w0 w/\w0.heap.size<=b/\w.heap[b]? =some (.map (ents L 0).toArray L.length)/\(∀ s v,getU s L=some v->EntE w s v)/\(∀ s,(getU s L).isSome=D s)/\(L.map (·.1)).Nodup
theorem zBG.congr {w0 w:World} {b:Nat} {D D':ByteArray->Bool} (h:zBG w0 b D w) (e:∀ s,D s=D' s):zBG w0 b D' w:=by
 obtain⟨L,h1,h2,h3,h4,h5,h6⟩:=h;exact⟨L,h1,h2,h3,h4,fun s=>(h5 s).trans (e s),h6⟩
theorem zBG.below {w0 w w1:World} {b:Nat} {D:ByteArray->Bool} (h:zBG w0 b D w) (hb:Below w.heap.size w w1):zBG w0 b D w1:=by
 obtain⟨L,h1,h2,h3,h4,h5⟩:=h;have ha:b<w.heap.size:=(Array.getElem?_eq_some_iff.1 h3).1;exact⟨L,h1.trans (hb.mono h1.size),h2,(hb.block b ha).trans h3,fun s v hv=>(h4 s v hv).keeps (zAr hb),h5⟩
theorem zBG.store {w0 w:World} {b:Nat} {D:ByteArray->Bool} {v:Value} (h:zBG w0 b D w) (s:ByteArray) (hE:EntE w s v) :
  ∃ w',(Instr.mapUpdate 44 (.map (some b)) (.string s) v).run prog w=.ok () w'/\zBG w0 b (fun t=>if s=t then true else D t) w'/\Keeps w w'/\w.heap.size=w'.heap.size:=by
 obtain⟨L,h1,h2,h3,h4,h5,h6⟩:=h;have ha:b<w.heap.size:=(Array.getElem?_eq_some_iff.1 h3).1;have hk:Keeps w (zAE w b (ups s v L)):=keeps_setMap h3;refine⟨zAE w b (ups s v L),?_,⟨ups s v L,zBk h1 h2,h2,setMap_at ha,fun s' v' hv=> ?_,fun s'=> ?_,ups_nodup s v h6⟩,hk,by simp⟩
 ·have:=run_storeS (P:=prog) underlying9 underlying44 w ha s v L;rw[setMap_self h3] at this;exact this
 ·rw[getU_ups] at hv;by_cases e:s=s'
  ·subst e;rw[if_pos rfl] at hv;cases hv;exact hE.keeps hk
  ·rw[if_neg e] at hv;exact(h4 s' v' hv).keeps hk
 ·rw[isSome_ups,h5]
theorem madeInv_own {w0 w:World} {b:Nat} {L:List (ByteArray×Value)} (h:OwnInv w0 b L w) (hs:∀ s,(getU s L).isSome=isOwn s):zBG w0 b isOwn w:=by
 obtain⟨h1,h2,h3,h4,h5⟩:=h;exact⟨L,h1,h2,h3,fun s v hv=>.inl (h4 s v hv),hs,h5⟩
section
variable {ops:Array Oper} {rest:List Oper} {a:Act} {Q:Exit->Act->World->Prop}
theorem wpList_updM {w0 w:World} {b:Nat} {D:ByteArray->Bool} {v:Value} (m k u:Operand) {ty:TypeId} {pos:String} {after:Array Edge} (s:ByteArray) (h:zBG w0 b D w) (hE:EntE w s v)
  (hm:a.eval m=.map (some b)) (hk:a.eval k=.string s) (hu:a.eval u=v) (hK:∀ w',zBG w0 b (fun t=>if s=t then true else D t) w'->Keeps w w'->wpList prog ops Q rest a w') :
  wpList prog ops Q (⟨none,.mapUpdate 44 m k u,ty,pos,after,none⟩::rest) a w:=by
 refine wpList_plain rfl fun K' hK'=> ?_;refine Exists.elim (h.store s hE) fun w' hw=> ?_;have h1:=hw.1;have h4:=hK w' hw.2.1 hw.2.2.1;clear h hw hK;unfold Oper.wp;simp[execOp,hm,hk,hu,h1,Result.andThen];exact hK' _ _ h4
end
def MadeCtx (lb nb:Nat) (w:World):Prop:=(∀ i j,i<3->j<3->w.cell? ⟨lb,3*i+j,none⟩=some (.func (.func (layFn i j)) #[] #[]))/\∀ k,k<50->w.cell? ⟨nb,k,none⟩=some (.string (nmK k))
theorem MadeCtx.keeps {lb nb:Nat} {w w':World} (h:MadeCtx lb nb w) (hk:Keeps w w'):MadeCtx lb nb w' :=
 ⟨fun i j hi hj=>hk.cell _ _ _ (h.1 i j hi hj),fun k hk'=>hk.cell _ _ _ (h.2 k hk')⟩
def inFirst (k:Nat) (t:ByteArray):Bool:=(namesL.take k).any fun n=>decide (t=n)
def D1 (k:Nat) (t:ByteArray):Bool:=isOwn t || inFirst k t
def D2 (k j:Nat) (t:ByteArray):Bool:=D1 k t || (decide (t=nmK k)&&decide (layK k<j))
theorem inFirst_succ (k:Nat) (hk:k<50) (t:ByteArray):inFirst (k+1) t=(inFirst k t || decide (t=nmK k)):=by
 unfold inFirst nmK;have hl:k<namesL.length:=hk;rw[List.take_succ_eq_append_getElem hl,List.getD,Q4 hl,List.any_append];simp only[List.any_cons,List.any_nil,Bool.or_false,Option.getD_some]
theorem D2_zero (k:Nat) (t:ByteArray):D1 k t=D2 k 0 t:=by simp[D2]
theorem D2_three (k:Nat) (hk:k<50) (t:ByteArray):D2 k 3 t=D1 (k+1) t:=by
 have h:layK k<3:=by unfold layK;split<;>(try split)<;>omega
 simp only[D2,D1,inFirst_succ k hk,h,decide_true,Bool.and_true,Bool.or_assoc]
theorem D2_skip (k j:Nat) (h: ¬ layK k=j) (t:ByteArray):D2 k j t=D2 k (j+1) t:=by
 have e:decide (layK k<j)=decide (layK k<j+1):=by simp;omega
 simp only[D2,e]
theorem D2_take (k j:Nat) (h:layK k=j) (t:ByteArray):(if nmK k=t then true else D2 k j t)=D2 k (j+1) t:=by
 subst h;by_cases e:nmK k=t
 ·subst e;simp[D2]
 ·have e': ¬ t=nmK k:=fun h=>e h.symm;simp[D2,e,e']
theorem layOf_nm {k:Nat} (hk:k<50):layOf (nmK k)=some (layK k):=by
 unfold layOf;rw[lay_num k hk,lay_text k hk,lay_agg k hk];unfold layK;by_cases h1:k<16
 ·simp[h1]
 ·by_cases h2:k<32<;>simp[h1,h2]
def MadeSays (w:World) (e:Ending) (w':World):Prop:=∃ b,e=.returned (.map (some b))/\zBG w b (D1 50) w'
theorem funcs_made (w:World):Calls prog 28 #[] w fun e w'=>MadeSays w e w':=by
 go_enter func28,ntmps28;go_wp2_with fail;refine(funcs_own w).mono ?_;rintro e w1 ⟨b,L,rfl,hI,hL⟩;have hM:=madeInv_own hI hL;clear hI hL;go_wp2
 go_loopw [14] (fun t wr=>∃ k:Nat,k<=50/\t=.int .i64 k/\zBG w b (D1 k) wr/\MadeCtx w1.heap.size (w1.heap.size+1) wr) (fun t _=>50-(intOf t).toNat)
 case atStart =>
  refine⟨0,by omega,rfl,?_,?_⟩
  ·exact(hM.below bel).congr (fun s=>by simp[D1,inFirst])
  ·refine⟨fun i j hi hj=> ?_,fun k hk=> ?_⟩
   ·rw[World.cell?_alloc_past _ _ _ (by simp),Q5 _ _ _ _ rfl];have h1:i=0∨i=1∨i=2:=by omega
    have h2:j=0∨j=1∨j=2:=by omega
    rcases h1 with rfl|rfl|rfl<;>rcases h2 with rfl|rfl|rfl<;>rfl
   ·rw[Q5 _ _ _ _ (by simp)];have e:∀ l:List ByteArray,((l.map Value.string).toArray)[k]? =(l[k]?).map Value.string:=fun l=>by simp
    refine(e namesL).trans ?_;unfold nmK;rw[List.getD,Q4 (show k<namesL.length from hk)]
    rfl
 case round =>
  obtain⟨k,hk,rfl,hg,hC⟩:=hrel;by_cases hlt:k<50
  ·have hd:=hC.2 k hlt;have ho:=Q3 wr _ hd;have hh:=hC.1 0 0 (by omega) (by omega);have hn:=Q3 wr _ hh;clear hh;go_wp2;obtain⟨wo,rfl⟩:∃ wo:World,wo=wr:=⟨_,rfl⟩
   have hf:=hg.below (w1:=wo.alloc (.cells #[.string (nmK k)] 9)) bel;have hm:=hC.keeps (w':=wo.alloc (.cells #[.string (nmK k)] 9)) kps;clear hg hC hd ho hn
   go_loopw [20] (fun t wr=>∃ j:Nat,j<=3/\t=.int .i64 j/\zBG w b (D2 k j) wr/\MadeCtx w1.heap.size (w1.heap.size+1) wr/\wr.cell? ⟨wo.heap.size,0,none⟩=some (.string (nmK k))) (fun t _=>3-(intOf t).toNat)
   case atStart=>exact⟨0,by omega,rfl,hf.congr (D2_zero k),hm,by go_simp⟩
   case round =>
    obtain⟨j,hj,rfl,hb,ha,hp⟩:=hrel;clear hf hm;have hbo:=Q3 _ _ hp;have hb1:=Q3 _ _ (ha.1 0 0 (by omega) (by omega));have h4:j=0∨j=1∨j=2∨j=3:=by omega
    rcases h4 with rfl|rfl|rfl|rfl
    ·have g0:wr.cell? ⟨w1.heap.size,0,none⟩=some (.func (.func 74) #[] #[]):=ha.1 0 0 (by omega) (by omega);have g1:wr.cell? ⟨w1.heap.size,1,none⟩=some (.func (.func 75) #[] #[]):=ha.1 0 1 (by omega) (by omega);have g2:wr.cell? ⟨w1.heap.size,2,none⟩=some (.func (.func 76) #[] #[]):=ha.1 0 2 (by omega) (by omega);by_cases hl:layK k=0
     ·have hN:(zAd (nmK k)).isSome=true:=by rw[lay_num k hlt];simp[hl]
      have HL:=zh hl;clear hl;go_wp2_with(first
       | (go_at_call 74;refine mB (nums_Known _ _) ?_;intro l n)
       | (refine wpList_updM _ _ _ _ (hb.below ?_) (.inr ⟨0,(layOf_nm hlt).trans (by rw[HL.out]),wr.heap.size,wo.heap.size,rfl,?_,?_,?_,?_⟩) rfl rfl rfl ?_))
      ·exact bel
      ·go_simp;rfl
      ·go_simp;rfl
      ·go_simp;rfl
      ·go_simp
      ·intro w3 he hc;go_wp2;go_roundw;case rel=>exact⟨1,by omega,by go_num,he.congr (D2_take k 0 HL.out),ha.keeps (Keeps.trans kps hc),hc.cell _ _ _ (by go_simp)⟩
       case measure=>simp[intOf]
     ·have hN:(zAd (nmK k)).isSome=false:=by rw[lay_num k hlt];simp[hl]
      have HL:=zh hl;clear hl;go_wp2_with(go_at_call 74;refine mB (nums_Known _ _) ?_;intro l n)
      go_roundw;case rel=>exact⟨1,by omega,by go_num,(hb.below bel).congr (D2_skip k 0 HL.out),ha.keeps kps,by go_simp⟩
      case measure=>simp[intOf]
    ·have g0:wr.cell? ⟨w1.heap.size,3,none⟩=some (.func (.func 77) #[] #[]):=ha.1 1 0 (by omega) (by omega);have g1:wr.cell? ⟨w1.heap.size,4,none⟩=some (.func (.func 78) #[] #[]):=ha.1 1 1 (by omega) (by omega);have g2:wr.cell? ⟨w1.heap.size,5,none⟩=some (.func (.func 79) #[] #[]):=ha.1 1 2 (by omega) (by omega);by_cases hl:layK k=1
     ·have hN:(zAT (nmK k)).isSome=true:=by rw[lay_text k hlt];simp[hl]
      have HL:=zh hl;clear hl;go_wp2_with(first
       | (go_at_call 77;refine mB (texts_Known _ _) ?_;intro l n)
       | (refine wpList_updM _ _ _ _ (hb.below ?_) (.inr ⟨1,(layOf_nm hlt).trans (by rw[HL.out]),wr.heap.size,wo.heap.size,rfl,?_,?_,?_,?_⟩) rfl rfl rfl ?_))
      ·exact bel
      ·go_simp;rfl
      ·go_simp;rfl
      ·go_simp;rfl
      ·go_simp
      ·intro w3 he hc;go_wp2;go_roundw;case rel=>exact⟨2,by omega,by go_num,he.congr (D2_take k 1 HL.out),ha.keeps (Keeps.trans kps hc),hc.cell _ _ _ (by go_simp)⟩
       case measure=>simp[intOf]
     ·have hN:(zAT (nmK k)).isSome=false:=by rw[lay_text k hlt];simp[hl]
      have HL:=zh hl;clear hl;go_wp2_with(go_at_call 77;refine mB (texts_Known _ _) ?_;intro l n)
      go_roundw;case rel=>exact⟨2,by omega,by go_num,(hb.below bel).congr (D2_skip k 1 HL.out),ha.keeps kps,by go_simp⟩
      case measure=>simp[intOf]
    ·have g0:wr.cell? ⟨w1.heap.size,6,none⟩=some (.func (.func 80) #[] #[]):=ha.1 2 0 (by omega) (by omega);have g1:wr.cell? ⟨w1.heap.size,7,none⟩=some (.func (.func 81) #[] #[]):=ha.1 2 1 (by omega) (by omega);have g2:wr.cell? ⟨w1.heap.size,8,none⟩=some (.func (.func 82) #[] #[]):=ha.1 2 2 (by omega) (by omega);by_cases hl:layK k=2
     ·have hN:(zAV (nmK k)).isSome=true:=by rw[lay_agg k hlt];simp[hl]
      have HL:=zh hl;clear hl;go_wp2_with(first
       | (go_at_call 80;refine mB (aggs_Known _ _) ?_;intro l n)
       | (refine wpList_updM _ _ _ _ (hb.below ?_) (.inr ⟨2,(layOf_nm hlt).trans (by rw[HL.out]),wr.heap.size,wo.heap.size,rfl,?_,?_,?_,?_⟩) rfl rfl rfl ?_))
      ·exact bel
      ·go_simp;rfl
      ·go_simp;rfl
      ·go_simp;rfl
      ·go_simp
      ·intro w3 he hc;go_wp2;go_roundw;case rel=>exact⟨3,by omega,by go_num,he.congr (D2_take k 2 HL.out),ha.keeps (Keeps.trans kps hc),hc.cell _ _ _ (by go_simp)⟩
       case measure=>simp[intOf]
     ·have hN:(zAV (nmK k)).isSome=false:=by rw[lay_agg k hlt];simp[hl]
      have HL:=zh hl;clear hl;go_wp2_with(go_at_call 80;refine mB (aggs_Known _ _) ?_;intro l n)
      go_roundw;case rel=>exact⟨3,by omega,by go_num,(hb.below bel).congr (D2_skip k 2 HL.out),ha.keeps kps,by go_simp⟩
      case measure=>simp[intOf]
    ·have he:=hb.congr (D2_three k hlt);clear hb;go_wp2;go_roundw;case rel=>exact⟨k+1,by omega,by go_num,he,ha⟩
     case measure=>simp[intOf];omega
  ·have e:k=50:=by omega
   subst e;go_wp2;all_goals go_ret;all_goals exact⟨_,rfl,hg⟩
end Go.Proofs.YtnccknhbplaieaaGreatDoor
