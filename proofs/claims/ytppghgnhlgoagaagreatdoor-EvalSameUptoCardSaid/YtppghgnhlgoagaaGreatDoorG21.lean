/- Parts. -/
import Derived.Test.YtppghgnhlgoagaaGreatDoorG20
import Derived.Test.YtppghgnhlgoagaaGreatDoorG18
set_option linter.all false
set_option maxRecDepth 100000
set_option maxHeartbeats 4000000
namespace Go.Proofs.YtppghgnhlgoagaaGreatDoor
open Go Go.RowKit
open Go.Lib renaming hid->zh
def namesL:List ByteArray:=[⟨#[65,66,83]⟩,
 ⟨#[83,73,71,78]⟩,
 ⟨#[73,78,84]⟩,
 ⟨#[84,82,85,78,67]⟩,
 ⟨#[82,79,85,78,68]⟩,
 ⟨#[70,76,79,79,82]⟩,
 ⟨#[67,69,73,76]⟩,
 ⟨#[77,79,68]⟩,
 ⟨#[81,85,79,84]⟩,
 ⟨#[80,79,87,69,82]⟩,
 ⟨#[83,81,82,84]⟩,
 ⟨#[71,67,68]⟩,
 ⟨#[76,67,77]⟩,
 ⟨#[70,65,67,84]⟩,
 ⟨#[67,76,65,77,80]⟩,
 ⟨#[79,68,68]⟩,
 ⟨#[76,69,78]⟩,
 ⟨#[76,69,70,84]⟩,
 ⟨#[82,73,71,72,84]⟩,
 ⟨#[77,73,68]⟩,
 ⟨#[85,80,80,69,82]⟩,
 ⟨#[76,79,87,69,82]⟩,
 ⟨#[84,82,73,77]⟩,
 ⟨#[82,69,80,84]⟩,
 ⟨#[70,73,78,68]⟩,
 ⟨#[83,85,66,83,84]⟩,
 ⟨#[67,79,78,67,65,84]⟩,
 ⟨#[79,82,68]⟩,
 ⟨#[67,72,65,82]⟩,
 ⟨#[69,88,65,67,84]⟩,
 ⟨#[82,69,86]⟩,
 ⟨#[78,85,77]⟩,
 ⟨#[83,85,77]⟩,
 ⟨#[80,82,79,68]⟩,
 ⟨#[77,73,78]⟩,
 ⟨#[77,65,88]⟩,
 ⟨#[65,86,71]⟩,
 ⟨#[77,69,68,73,65,78]⟩,
 ⟨#[67,79,85,78,84]⟩,
 ⟨#[67,79,85,78,84,65]⟩,
 ⟨#[66,76,65,78,75,83]⟩,
 ⟨#[67,79,85,78,84,73,70]⟩,
 ⟨#[83,85,77,73,70]⟩,
 ⟨#[77,65,84,67,72]⟩,
 ⟨#[76,79,79,75,85,80]⟩,
 ⟨#[73,78,68,69,88]⟩,
 ⟨#[76,65,82,71,69]⟩,
 ⟨#[74,79,73,78]⟩,
 ⟨#[82,79,87,83]⟩,
 ⟨#[67,79,76,83]⟩]
def nmK (k:Nat):ByteArray:=namesL.getD k ⟨#[]⟩
def layK (k:Nat):Nat:=if k<16 then 0 else if k<32 then 1 else 2
theorem lay_num:∀ k,k<50->(zC4 (nmK k)).isSome=decide (layK k=0):=by decide +kernel
theorem lay_text:∀ k,k<50->(zB1 (nmK k)).isSome=decide (layK k=1):=by decide +kernel
theorem lay_agg:∀ k,k<50->(zB4 (nmK k)).isSome=decide (layK k=2):=by decide +kernel
def layFn (i j:Nat):Nat:=if i=0 then (if j=0 then 89 else if j=1 then 90 else 91) else if i=1 then (if j=0 then 92 else if j=1 then 93 else 94) else (if j=0 then 95 else if j=1 then 96 else 97)
def layOf (s:ByteArray):Option Nat:=if (zC4 s).isSome then some 0 else if (zB1 s).isSome then some 1 else if (zB4 s).isSome then some 2 else none
def LayE (w:World) (v:Value) (s:ByteArray) (i:Nat):Prop:=∃ pb pn,v=.agg #[.func (.func 98) #[] #[.pointer (some ⟨pb,0,none⟩),.pointer (some ⟨pn,0,none⟩)],.func (.func 99) #[] #[.pointer (some ⟨pb,0,none⟩),.pointer (some ⟨pn,0,none⟩)]] /\
 w.cell? ⟨pb,0,none⟩=some (.func (.func (layFn i 0)) #[] #[])/\w.cell? ⟨pb,1,none⟩=some (.func (.func (layFn i 1)) #[] #[])/\w.cell? ⟨pb,2,none⟩=some (.func (.func (layFn i 2)) #[] #[])/\w.cell? ⟨pn,0,none⟩=some (.string s)
theorem LayE.keeps {w w':World} {v:Value} {s:ByteArray} {i:Nat} (h:LayE w v s i) (hk:Keeps w w'):LayE w' v s i:=by
 obtain⟨pb,pn,e,h0,h1,h2,h3⟩:=h
 exact⟨pb,pn,e,hk.cell _ _ _ h0,hk.cell _ _ _ h1,hk.cell _ _ _ h2,hk.cell _ _ _ h3⟩
def EntE (w:World) (s:ByteArray) (v:Value):Prop:=(∃ x y d,zAz s=some (x,y,d)/\OwnE w v x y d)∨(∃ i,layOf s=some i/\LayE w v s i)
theorem EntE.keeps {w w':World} {v:Value} {s:ByteArray} (h:EntE w s v) (hk:Keeps w w'):EntE w' s v:=by
 rcases h with ⟨x,y,d,e,h⟩|⟨i,e,h⟩
 ·exact .inl ⟨x,y,d,e,h.keeps hk⟩
 ·exact .inr ⟨i,e,h.keeps hk⟩
def zB0 (w0:World) (b:Nat) (D:ByteArray->Bool) (w:World):Prop:=∃ L,Below w0.heap.size w0 w/\w0.heap.size<=b/\w.heap[b]? =some (.map (ents L 0).toArray L.length)/\(∀ s v,getU s L=some v->EntE w s v)/\(∀ s,(getU s L).isSome=D s)/\(L.map (·.1)).Nodup
theorem zB0.congr {w0 w:World} {b:Nat} {D D':ByteArray->Bool} (h:zB0 w0 b D w) (e:∀ s,D s=D' s):zB0 w0 b D' w:=by
 obtain⟨L,h1,h2,h3,h4,h5,h6⟩:=h
 exact⟨L,h1,h2,h3,h4,fun s=>(h5 s).trans (e s),h6⟩
theorem zB0.below {w0 w w1:World} {b:Nat} {D:ByteArray->Bool} (h:zB0 w0 b D w) (hb:Below w.heap.size w w1):zB0 w0 b D w1:=by
 obtain⟨L,h1,h2,h3,h4,h5⟩:=h
 have hlt:b<w.heap.size:=(Array.getElem?_eq_some_iff.1 h3).1
 exact⟨L,h1.trans (hb.mono h1.size),h2,(hb.block b hlt).trans h3,fun s v hv=>(h4 s v hv).keeps (zAr hb),h5⟩
theorem zB0.store {w0 w:World} {b:Nat} {D:ByteArray->Bool} {v:Value} (h:zB0 w0 b D w) (s:ByteArray) (hE:EntE w s v) :
  ∃ w',(Instr.mapUpdate 79 (.map (some b)) (.string s) v).run Tryz.prog w=.ok () w'/\zB0 w0 b (fun t=>if s=t then true else D t) w'/\Keeps w w'/\w.heap.size=w'.heap.size:=by
 obtain⟨L,h1,h2,h3,h4,h5,h6⟩:=h
 have hlt:b<w.heap.size:=(Array.getElem?_eq_some_iff.1 h3).1
 have hk:Keeps w (zAI w b (ups s v L)):=keeps_setMap h3
 refine⟨zAI w b (ups s v L),?_,⟨ups s v L,zBU h1 h2,h2,setMap_at hlt,fun s' v' hv=> ?_,fun s'=> ?_,ups_nodup s v h6⟩,hk,by simp⟩
 ·have:=run_storeS (P:=Tryz.prog) Tryz.underlying9 Tryz.underlying79 w hlt s v L
  rw[setMap_self h3] at this
  exact this
 ·rw[getU_ups] at hv
  by_cases e:s=s'
  ·subst e
   rw[if_pos rfl] at hv
   cases hv
   exact hE.keeps hk
  ·rw[if_neg e] at hv
   exact(h4 s' v' hv).keeps hk
 ·rw[isSome_ups,h5]
theorem madeInv_own {w0 w:World} {b:Nat} {L:List (ByteArray×Value)} (h:OwnInv w0 b L w) (hs:∀ s,(getU s L).isSome=isOwn s):zB0 w0 b isOwn w:=by
 obtain⟨h1,h2,h3,h4,h5⟩:=h
 exact⟨L,h1,h2,h3,fun s v hv=>.inl (h4 s v hv),hs,h5⟩
section
variable {ops:Array Oper} {rest:List Oper} {a:Act} {Q:Exit->Act->World->Prop}
theorem wpList_updM {w0 w:World} {b:Nat} {D:ByteArray->Bool} {v:Value} (m k u:Operand) {ty:TypeId} {pos:String} {after:Array Edge} (s:ByteArray) (h:zB0 w0 b D w) (hE:EntE w s v)
  (hm:a.eval m=.map (some b)) (hk:a.eval k=.string s) (hu:a.eval u=v) (hK:∀ w',zB0 w0 b (fun t=>if s=t then true else D t) w'->Keeps w w'->wpList Tryz.prog ops Q rest a w') :
  wpList Tryz.prog ops Q (⟨none,.mapUpdate 79 m k u,ty,pos,after,none⟩::rest) a w:=by
 refine wpList_plain rfl fun K' hK'=> ?_
 refine Exists.elim (h.store s hE) fun w' hw=> ?_
 have h1:=hw.1
 have h4:=hK w' hw.2.1 hw.2.2.1
 clear h hw hK
 unfold Oper.wp
 simp[execOp,hm,hk,hu,h1,Result.andThen]
 exact hK' _ _ h4
end
def MadeCtx (lb nb:Nat) (w:World):Prop:=(∀ i j,i<3->j<3->w.cell? ⟨lb,3*i+j,none⟩=some (.func (.func (layFn i j)) #[] #[]))/\∀ k,k<50->w.cell? ⟨nb,k,none⟩=some (.string (nmK k))
theorem MadeCtx.keeps {lb nb:Nat} {w w':World} (h:MadeCtx lb nb w) (hk:Keeps w w'):MadeCtx lb nb w' :=
 ⟨fun i j hi hj=>hk.cell _ _ _ (h.1 i j hi hj),fun k hk'=>hk.cell _ _ _ (h.2 k hk')⟩
def inFirst (k:Nat) (t:ByteArray):Bool:=(namesL.take k).any fun n=>decide (t=n)
def D1 (k:Nat) (t:ByteArray):Bool:=isOwn t || inFirst k t
def D2 (k j:Nat) (t:ByteArray):Bool:=D1 k t || (decide (t=nmK k)&&decide (layK k<j))
theorem inFirst_succ (k:Nat) (hk:k<50) (t:ByteArray):inFirst (k+1) t=(inFirst k t || decide (t=nmK k)):=by
 unfold inFirst nmK
 have hl:k<namesL.length:=hk
 rw[List.take_succ_eq_append_getElem hl,List.getD,List.getElem?_eq_getElem hl,List.any_append]
 simp only[List.any_cons,List.any_nil,Bool.or_false,Option.getD_some]
theorem D2_zero (k:Nat) (t:ByteArray):D1 k t=D2 k 0 t:=by simp[D2]
theorem D2_three (k:Nat) (hk:k<50) (t:ByteArray):D2 k 3 t=D1 (k+1) t:=by
 have h:layK k<3:=by unfold layK;split<;>(try split)<;>omega
 simp only[D2,D1,inFirst_succ k hk,h,decide_true,Bool.and_true,Bool.or_assoc]
theorem D2_skip (k j:Nat) (h: ¬ layK k=j) (t:ByteArray):D2 k j t=D2 k (j+1) t:=by
 have e:decide (layK k<j)=decide (layK k<j+1):=by simp;omega
 simp only[D2,e]
theorem D2_take (k j:Nat) (h:layK k=j) (t:ByteArray):(if nmK k=t then true else D2 k j t)=D2 k (j+1) t:=by
 subst h
 by_cases e:nmK k=t
 ·subst e;simp[D2]
 ·have e': ¬ t=nmK k:=fun h=>e h.symm
  simp[D2,e,e']
theorem layOf_nm {k:Nat} (hk:k<50):layOf (nmK k)=some (layK k):=by
 unfold layOf
 rw[lay_num k hk,lay_text k hk,lay_agg k hk]
 unfold layK
 by_cases h1:k<16
 ·simp[h1]
 ·by_cases h2:k<32<;>simp[h1,h2]
def MadeSays (w:World) (e:Ending) (w':World):Prop:=∃ b,e=.returned (.map (some b))/\zB0 w b (D1 50) w'
theorem funcs_made (w:World):Calls Tryz.prog 70 #[] w fun e w'=>MadeSays w e w':=by
 go_enter Tryz.func70,Tryz.ntmps70
 go_wp2_with fail
 refine(funcs_own w).mono ?_
 rintro e w1 ⟨b,L,rfl,hI,hL⟩
 have hM:=madeInv_own hI hL
 clear hI hL
 go_wp2
 go_loopw [14] (fun t wr=>∃ k:Nat,k<=50/\t=.int .i64 k/\zB0 w b (D1 k) wr/\MadeCtx w1.heap.size (w1.heap.size+1) wr) (fun t _=>50-(intOf t).toNat)
 case atStart =>
  refine⟨0,by omega,rfl,?_,?_⟩
  ·exact(hM.below bel).congr (fun s=>by simp[D1,inFirst])
  ·refine⟨fun i j hi hj=> ?_,fun k hk=> ?_⟩
   ·rw[World.cell?_alloc_past _ _ _ (by simp),World.cell?_alloc_at _ _ _ _ rfl]
    have h1:i=0∨i=1∨i=2:=by omega
    have h2:j=0∨j=1∨j=2:=by omega
    rcases h1 with rfl|rfl|rfl<;>rcases h2 with rfl|rfl|rfl<;>rfl
   ·rw[World.cell?_alloc_at _ _ _ _ (by simp)]
    have e:∀ l:List ByteArray,((l.map Value.string).toArray)[k]? =(l[k]?).map Value.string:=fun l=>by simp
    refine(e namesL).trans ?_
    unfold nmK
    rw[List.getD,List.getElem?_eq_getElem (show k<namesL.length from hk)]
    rfl
 case round =>
  obtain⟨k,hk,rfl,hM1,hC⟩:=hrel
  by_cases hlt:k<50
  ·have hname:=hC.2 k hlt
   have hbn:=World.block_lt_of_cell? wr _ hname
   have h00:=hC.1 0 0 (by omega) (by omega)
   have hbl:=World.block_lt_of_cell? wr _ h00
   clear h00
   go_wp2
   obtain⟨wo,rfl⟩:∃ wo:World,wo=wr:=⟨_,rfl⟩
   have hM1':=hM1.below (w1:=wo.alloc (.cells #[.string (nmK k)] 9)) bel
   have hC1:=hC.keeps (w':=wo.alloc (.cells #[.string (nmK k)] 9)) kps
   clear hM1 hC hname hbn hbl
   go_loopw [20] (fun t wr=>∃ j:Nat,j<=3/\t=.int .i64 j/\zB0 w b (D2 k j) wr/\MadeCtx w1.heap.size (w1.heap.size+1) wr/\wr.cell? ⟨wo.heap.size,0,none⟩=some (.string (nmK k))) (fun t _=>3-(intOf t).toNat)
   case atStart=>exact⟨0,by omega,rfl,hM1'.congr (D2_zero k),hC1,by go_simp⟩
   case round =>
    obtain⟨j,hj,rfl,hM2,hC2,hnm⟩:=hrel
    clear hM1' hC1
    have hbo:=World.block_lt_of_cell? _ _ hnm
    have hb1:=World.block_lt_of_cell? _ _ (hC2.1 0 0 (by omega) (by omega))
    have h4:j=0∨j=1∨j=2∨j=3:=by omega
    rcases h4 with rfl|rfl|rfl|rfl
    ·have g0:wr.cell? ⟨w1.heap.size,0,none⟩=some (.func (.func 89) #[] #[]):=hC2.1 0 0 (by omega) (by omega)
     have g1:wr.cell? ⟨w1.heap.size,1,none⟩=some (.func (.func 90) #[] #[]):=hC2.1 0 1 (by omega) (by omega)
     have g2:wr.cell? ⟨w1.heap.size,2,none⟩=some (.func (.func 91) #[] #[]):=hC2.1 0 2 (by omega) (by omega)
     by_cases hl:layK k=0
     ·have hN:(zC4 (nmK k)).isSome=true:=by rw[lay_num k hlt];simp[hl]
      have HL:=zh hl
      clear hl
      go_wp2_with(first
       | (go_at_call 89;refine mB (nums_Known _ _) ?_;intro l n)
       | (refine wpList_updM _ _ _ _ (hM2.below ?_) (.inr ⟨0,(layOf_nm hlt).trans (by rw[HL.out]),wr.heap.size,wo.heap.size,rfl,?_,?_,?_,?_⟩) rfl rfl rfl ?_))
      ·exact bel
      ·go_simp;rfl
      ·go_simp;rfl
      ·go_simp;rfl
      ·go_simp
      ·intro w3 hM3 hk3
       go_wp2
       go_roundw
       case rel=>exact⟨1,by omega,by go_num,hM3.congr (D2_take k 0 HL.out),hC2.keeps (Keeps.trans kps hk3),hk3.cell _ _ _ (by go_simp)⟩
       case measure=>simp[intOf]
     ·have hN:(zC4 (nmK k)).isSome=false:=by rw[lay_num k hlt];simp[hl]
      have HL:=zh hl
      clear hl
      go_wp2_with(go_at_call 89;refine mB (nums_Known _ _) ?_;intro l n)
      go_roundw
      case rel=>exact⟨1,by omega,by go_num,(hM2.below bel).congr (D2_skip k 0 HL.out),hC2.keeps kps,by go_simp⟩
      case measure=>simp[intOf]
    ·have g0:wr.cell? ⟨w1.heap.size,3,none⟩=some (.func (.func 92) #[] #[]):=hC2.1 1 0 (by omega) (by omega)
     have g1:wr.cell? ⟨w1.heap.size,4,none⟩=some (.func (.func 93) #[] #[]):=hC2.1 1 1 (by omega) (by omega)
     have g2:wr.cell? ⟨w1.heap.size,5,none⟩=some (.func (.func 94) #[] #[]):=hC2.1 1 2 (by omega) (by omega)
     by_cases hl:layK k=1
     ·have hN:(zB1 (nmK k)).isSome=true:=by rw[lay_text k hlt];simp[hl]
      have HL:=zh hl
      clear hl
      go_wp2_with(first
       | (go_at_call 92;refine mB (texts_Known _ _) ?_;intro l n)
       | (refine wpList_updM _ _ _ _ (hM2.below ?_) (.inr ⟨1,(layOf_nm hlt).trans (by rw[HL.out]),wr.heap.size,wo.heap.size,rfl,?_,?_,?_,?_⟩) rfl rfl rfl ?_))
      ·exact bel
      ·go_simp;rfl
      ·go_simp;rfl
      ·go_simp;rfl
      ·go_simp
      ·intro w3 hM3 hk3
       go_wp2
       go_roundw
       case rel=>exact⟨2,by omega,by go_num,hM3.congr (D2_take k 1 HL.out),hC2.keeps (Keeps.trans kps hk3),hk3.cell _ _ _ (by go_simp)⟩
       case measure=>simp[intOf]
     ·have hN:(zB1 (nmK k)).isSome=false:=by rw[lay_text k hlt];simp[hl]
      have HL:=zh hl
      clear hl
      go_wp2_with(go_at_call 92;refine mB (texts_Known _ _) ?_;intro l n)
      go_roundw
      case rel=>exact⟨2,by omega,by go_num,(hM2.below bel).congr (D2_skip k 1 HL.out),hC2.keeps kps,by go_simp⟩
      case measure=>simp[intOf]
    ·have g0:wr.cell? ⟨w1.heap.size,6,none⟩=some (.func (.func 95) #[] #[]):=hC2.1 2 0 (by omega) (by omega)
     have g1:wr.cell? ⟨w1.heap.size,7,none⟩=some (.func (.func 96) #[] #[]):=hC2.1 2 1 (by omega) (by omega)
     have g2:wr.cell? ⟨w1.heap.size,8,none⟩=some (.func (.func 97) #[] #[]):=hC2.1 2 2 (by omega) (by omega)
     by_cases hl:layK k=2
     ·have hN:(zB4 (nmK k)).isSome=true:=by rw[lay_agg k hlt];simp[hl]
      have HL:=zh hl
      clear hl
      go_wp2_with(first
       | (go_at_call 95;refine mB (aggs_Known _ _) ?_;intro l n)
       | (refine wpList_updM _ _ _ _ (hM2.below ?_) (.inr ⟨2,(layOf_nm hlt).trans (by rw[HL.out]),wr.heap.size,wo.heap.size,rfl,?_,?_,?_,?_⟩) rfl rfl rfl ?_))
      ·exact bel
      ·go_simp;rfl
      ·go_simp;rfl
      ·go_simp;rfl
      ·go_simp
      ·intro w3 hM3 hk3
       go_wp2
       go_roundw
       case rel=>exact⟨3,by omega,by go_num,hM3.congr (D2_take k 2 HL.out),hC2.keeps (Keeps.trans kps hk3),hk3.cell _ _ _ (by go_simp)⟩
       case measure=>simp[intOf]
     ·have hN:(zB4 (nmK k)).isSome=false:=by rw[lay_agg k hlt];simp[hl]
      have HL:=zh hl
      clear hl
      go_wp2_with(go_at_call 95;refine mB (aggs_Known _ _) ?_;intro l n)
      go_roundw
      case rel=>exact⟨3,by omega,by go_num,(hM2.below bel).congr (D2_skip k 2 HL.out),hC2.keeps kps,by go_simp⟩
      case measure=>simp[intOf]
    ·have hM3:=hM2.congr (D2_three k hlt)
     clear hM2
     go_wp2
     go_roundw
     case rel=>exact⟨k+1,by omega,by go_num,hM3,hC2⟩
     case measure=>simp[intOf];omega
  ·have e:k=50:=by omega
   subst e
   go_wp2
   go_ret
   exact⟨_,rfl,hM1⟩
end Go.Proofs.YtppghgnhlgoagaaGreatDoor
