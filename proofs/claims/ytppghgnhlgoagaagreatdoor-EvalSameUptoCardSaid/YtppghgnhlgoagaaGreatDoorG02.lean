/- Parts. -/
import Derived.Test.YtppghgnhlgoagaaGreatDoorG01
import Derived.WalkKit
import Derived.Maps.OwnSet
import Derived.Lib.ItoaNum
set_option linter.all false
set_option maxRecDepth 100000
set_option maxHeartbeats 4000000
namespace Go.Proofs.YtppghgnhlgoagaaGreatDoor
open Go Go.Maps Go.WideMaps
def rdv (v:Value):Option (DataW Value×List MemPlace):=some (.held v,[])
def mkD (es:List (ByteArray×Value)):DataW Value:=es.foldl (fun D p=>D.put (.string p.1.data.toList) (.held p.2)) (.map [])
def getS (es:List (ByteArray×Value)) (k:ByteArray):Option Value:=es.foldl (fun o p=>if p.1=k then some p.2 else o) none
theorem mkD_snoc (es:List (ByteArray×Value)) (s:ByteArray) (v:Value):mkD (es++[(s,v)])=(mkD es).put (.string s.data.toList) (.held v):=by
 simp[mkD,List.foldl_append]
theorem bytes_inj {a b:ByteArray} (h:a.data.toList=b.data.toList):a=b:=by
 obtain⟨⟨x⟩⟩:=a;obtain⟨⟨y⟩⟩:=b;simp at h;rw[h]
theorem spec_fold (es:List (ByteArray×Value)) (k:ByteArray) (z:Value):∀ (D:DataW Value) (o:Option Value),IsMap D->Maps.has D (.string k.data.toList)=o.isSome->D.atKey (.string k.data.toList) (.held z)=.held (o.getD z) ->
  Maps.has (es.foldl (fun D p=>D.put (.string p.1.data.toList) (.held p.2)) D) (.string k.data.toList)=(es.foldl (fun o p=>if p.1=k then some p.2 else o) o).isSome /\
  (es.foldl (fun D p=>D.put (.string p.1.data.toList) (.held p.2)) D).atKey (.string k.data.toList) (.held z)=.held ((es.foldl (fun o p=>if p.1=k then some p.2 else o) o).getD z):=by
 induction es with
 | nil=>exact fun D o _ h1 h2=>⟨h1,h2⟩
 | cons p es ih =>
   intro D o hm h1 h2
   obtain⟨s,v⟩:=p
   refine ih _ _ (hm.put _ _) ?_ ?_
   ·by_cases h:s=k
    ·subst h
     simp only[if_true]
     rw[has_put_same hm (by simp[WideAt.IsKeyLit])];rfl
    ·have hne:(Lit.string k.data.toList)≠.string s.data.toList:=fun e=>h (bytes_inj (by injection e with e;exact e.symm))
     simp only[if_neg h]
     rw[has_put_other hne,h1]
   ·by_cases h:s=k
    ·subst h
     simp only[if_true]
     rw[atKey_put_same hm (by simp[WideAt.IsKeyLit])];rfl
    ·have hne:(Lit.string k.data.toList)≠.string s.data.toList:=fun e=>h (bytes_inj (by injection e with e;exact e.symm))
     simp only[if_neg h]
     rw[atKey_put_other hne,h2]
theorem mkD_spec (es:List (ByteArray×Value)) (k:ByteArray) (z:Value) :
  Maps.has (mkD es) (.string k.data.toList)=(getS es k).isSome/\(mkD es).atKey (.string k.data.toList) (.held z)=.held ((getS es k).getD z) :=
 spec_fold es k z _ _ isMap_empty rfl rfl
def zAx (P:Program) (k:TypeId) (w:World) (b:Nat) (es:List (ByteArray×Value)):Prop:=w.ownsMap P k rdv b es.length (mkD es)
section
variable {P:Program} {k e t:TypeId} {w w':World} {b:Nat} {es:List (ByteArray×Value)}
theorem zAx.made (P:Program) (k:TypeId) (w:World):zAx P k (w.alloc (.map #[] 0)) w.heap.size []:=World.ownsMap_made w P k rdv
theorem zAx.lt (h:zAx P k w b es):b<w.heap.size:=World.ownsMap.lt h
theorem zAx.alloc (h:zAx P k w b es) (o:Obj):zAx P k (w.alloc o) b es:=World.ownsMap.alloc h o
theorem zAx.drew (h:zAx P k w b es):zAx P k w.drew b es:=h
theorem zAx.grown {row:Option Nat} (h:zAx P k w b es) (hg:w.grownBy w' row) (hne:some b≠row):zAx P k w' b es:=World.ownsMap.kept h hg hne
theorem zAx.below {B:Nat} (h:zAx P k w b es) (hb:RowKit.Below B w w') (hlt:b<B):zAx P k w' b es:=by
 obtain⟨xs,clock,hx,r⟩:=h
 exact⟨xs,clock,(hb.block b hlt).trans hx,r⟩
theorem zAx.setCell (h:zAx P k w b es) {a:Addr} (ha:b≠a.block) (u:Value):zAx P k (w.setCell a u) b es:=World.ownsMap.setCell h ha u
theorem zAx.look1 (h:zAx P k w b es) (hk:P.underlying k=some .string) (ht:P.underlying t=some (.map k e)) {z:Value} (hz:(zeroValue e).run P w=.ok z w) (s:ByteArray) (hs:s.size<=maxLen) :
  (Instr.lookup t (.map (some b)) (.string s) false).run P w=.ok ((getS es s).getD z) w:=by
 obtain⟨v,ps,hrun,hv⟩:=World.ownsMap.lookup h (string_keyed hk) ht hz (zd:=.held z) (zp:=[]) rfl (keyOf_string_mk hk hs)
 obtain⟨_,h2⟩:=mkD_spec es s z
 rw[hrun]
 rw[h2] at hv
 simp only[rdv,Option.some.injEq,Prod.mk.injEq,DataW.held.injEq] at hv
 rw[hv.1]
theorem zAx.update (h:zAx P k w b es) (hk:P.underlying k=some .string) (ht:P.underlying t=some (.map k e)) (hn:es.length<maxLen) (s:ByteArray) (hs:s.size<=maxLen) (v:Value) :
  ∃ w',(Instr.mapUpdate t (.map (some b)) (.string s) v).run P w=.ok () w'/\zAx P k w' b (es++[(s,v)])/\w.grownBy w' (some b):=by
 obtain⟨w',hrun,h1,h2⟩:=World.ownsMap.update h (string_keyed hk) ht hn (val:=v) (d:=.held v) (ps:=[]) (keyOf_string_mk hk hs) rfl
 refine⟨w',hrun,?_,h2⟩
 unfold zAx
 rw[mkD_snoc,List.length_append]
 exact h1
end
section
variable {P:Program} {ops:Array Oper} {rest:List Oper} {o:Oper} {a:Act} {Q:Exit->Act->World->Prop}
end
end Go.Proofs.YtppghgnhlgoagaaGreatDoor
namespace Go.Proofs.YtppghgnhlgoagaaGreatDoor
open Go Go.RowKit
def minI:Int:= -9223372036854775808
theorem zAM (x:Int) (w:World):Calls Tryz.prog 56 #[.int .i64 x] w fun e w'=>e=.returned (.bool (x != minI))/\w=w':=by
 go_enter Tryz.func56,Tryz.ntmps56
 go_wp2
 go_ret
 exact⟨rfl,rfl⟩
structure V where
 tag:Int
 num:Int
 str:ByteArray
 is:Bool
 code:Int
deriving DecidableEq
abbrev vG (v:V):Value:=.agg #[.int .i64 v.tag,.int .i64 v.num,.string v.str,.bool v.is,.int .i64 v.code]
@[go_sem] theorem vG_def (v:V):vG v=.agg #[.int .i64 v.tag,.int .i64 v.num,.string v.str,.bool v.is,.int .i64 v.code]:=rfl
def isCode (c:Int):Bool:=decide (1<=c)&&decide (c<=8)
def errC (c:Int):Int:=if isCode c then c else 8
def zC1 (b:Bool):V:=⟨3,0,⟨#[]⟩,b,0⟩
def errG (c:Int):V:=⟨4,0,⟨#[]⟩,false,errC c⟩
def numG (x:Int):V:=if x=minI then ⟨4,0,⟨#[]⟩,false,2⟩ else ⟨1,x,⟨#[]⟩,false,0⟩
def txtG (s:ByteArray):V:=⟨2,0,s,false,0⟩
def bareG (v:V):V:=⟨v.tag,if v.tag=1 then 0 else v.num,if v.tag=2 then ⟨#[]⟩ else v.str,if v.tag=3 then false else v.is,if v.tag=4 then 0 else v.code⟩
def nameS (c:Nat):ByteArray:=if c=1 then ⟨#[35,67,89,67,76,69,33]⟩ else if c=2 then ⟨#[35,78,85,77,33]⟩ else if c=3 then ⟨#[35,68,73,86,33]⟩ else if c=4 then ⟨#[35,84,89,80,69,33]⟩
 else if c=5 then ⟨#[35,82,65,78,71,69,33]⟩ else if c=6 then ⟨#[35,77,73,83,83,33]⟩ else if c=7 then ⟨#[35,76,79,78,71,33]⟩ else if c=8 then ⟨#[35,65,82,71,33]⟩ else ⟨#[]⟩
def namesA:Value:=.agg #[.string (nameS 0),.string (nameS 1),.string (nameS 2),.string (nameS 3),.string (nameS 4),.string (nameS 5),.string (nameS 6),.string (nameS 7),.string (nameS 8)]
theorem value_names (w:World):Rt 53 #[] w namesA:=by
 go_enter Tryz.func53,Tryz.ntmps53
 go_wp2
 go_returns
 exact⟨rfl,by go_grown⟩
theorem idx_names (c:Nat) (h:c<=8) (w:World):(Instr.index 143 namesA (.int .i64 c)).run Tryz.prog w=.ok (.string (nameS c)) w:=by
 have h:c=0∨c=1∨c=2∨c=3∨c=4∨c=5∨c=6∨c=7∨c=8:=by omega
 rcases h with rfl|rfl|rfl|rfl|rfl|rfl|rfl|rfl|rfl
 all_goals(show _=_;kernel_rfl)
theorem value_Name (c:Int) (w:World):Rt 34 #[.int .i64 c] w (.string (nameS c.toNat)):=by
 by_cases h:c<0∨8<c
 ·have e:nameS c.toNat=⟨#[]⟩:=by
   unfold nameS
   rcases h with h|h
   ·rw[show c.toNat=0 by omega];rfl
   ·simp(disch:=omega) [show c.toNat≠1 by omega,show c.toNat≠2 by omega,show c.toNat≠3 by omega,show c.toNat≠4 by omega,show c.toNat≠5 by omega,show c.toNat≠6 by omega,show c.toNat≠7 by omega,show c.toNat≠8 by omega]
  rw[e]
  rcases h with h|h
  ·go_enter Tryz.func34,Tryz.ntmps34
   go_wp2
   go_ret
   exact⟨rfl,by go_grown⟩
  ·have h0: ¬ c<0:=by omega
   go_enter Tryz.func34,Tryz.ntmps34
   go_wp2
   go_ret
   exact⟨rfl,by go_grown⟩
 ·obtain⟨n,rfl⟩:=Int.eq_ofNat_of_zero_le (show 0<=c by omega)
  have hn:n<=8:=by omega
  have hi:=idx_names n hn
  rw[Int.toNat_natCast]
  go_enter Tryz.func34,Tryz.ntmps34
  go_wp2_with(go_at_call 53;refine(value_names _).mono ?_;rintro e w1 ⟨rfl,hb⟩)
  go_ret
  exact⟨rfl,hb⟩
theorem zB2 (b:Bool) (w:World):Rt 66 #[.bool b] w (vG (zC1 b)):=by
 go_enter Tryz.func66,Tryz.ntmps66
 go_wp2
 go_returns
 exact⟨rfl,bel⟩
theorem value_Txt (s:ByteArray) (w:World):Rt 41 #[.string s] w (vG (txtG s)):=by
 go_enter Tryz.func41,Tryz.ntmps41
 go_wp2
 go_returns
 exact⟨rfl,bel⟩
theorem name_empty (c:Int):(nameS c.toNat).toList.isEmpty= !isCode c:=by
 by_cases h:1<=c/\c<=8
 ·have h:c=1∨c=2∨c=3∨c=4∨c=5∨c=6∨c=7∨c=8:=by omega
  rcases h with rfl|rfl|rfl|rfl|rfl|rfl|rfl|rfl<;>decide +kernel
 ·have e:isCode c=false:=by unfold isCode;rw[Bool.and_eq_false_iff];simp;omega
  rw[e]
  unfold nameS
  simp[show c.toNat≠1 by omega,show c.toNat≠2 by omega,show c.toNat≠3 by omega,show c.toNat≠4 by omega,show c.toNat≠5 by omega,show c.toNat≠6 by omega,show c.toNat≠7 by omega,show c.toNat≠8 by omega]
theorem errC_of (c:Int) (h:(nameS c.toNat).toList.isEmpty=true):errC c=8:=by
 rw[name_empty] at h;simp at h;simp[errC,h]
theorem errC_of' (c:Int) (h:(nameS c.toNat).toList.isEmpty=false):errC c=c:=by
 rw[name_empty] at h;simp at h;simp[errC,h]
theorem zA3 (c:Int) (w:World):Rt 21 #[.int .i64 c] w (vG (errG c)):=by
 go_enter Tryz.func21,Tryz.ntmps21
 go_wp2_with fail
 refine(value_Name _ _).mono ?_
 rintro e w1 ⟨rfl,hb⟩
 obtain⟨l,n,rfl⟩:=zA0 hb
 clear hb
 go_wp2
 all_goals go_returns
 ·exact⟨by unfold errG;rw[errC_of c ‹_›],bel⟩
 ·exact⟨by unfold errG;rw[errC_of' c ‹_›],bel⟩
theorem zAq (x:Int) (w:World):Rt 55 #[.int .i64 x] w (vG (numG x)):=by
 go_enter Tryz.func55,Tryz.ntmps55
 go_wp2_with(first|(go_at_call 56;refine(zAM _ _).mono ?_;rintro e w1 ⟨rfl,rfl⟩)|(go_at_call 21;refine mB (zA3 _ _) ?_;intro l n))
 all_goals go_returns
 ·have h:(!x != minI)=true:= ‹_›
  have e:numG x=errG 2:=by simp at h;unfold numG;rw[if_pos h];rfl
  exact⟨by rw[e],bel⟩
 ·have h:(!x != minI)=false:= ‹_›
  have e:numG x=⟨1,x,⟨#[]⟩,false,0⟩:=by simp at h;unfold numG;rw[if_neg h]
  exact⟨by rw[e],bel⟩
theorem value_bare (v:V) (w:World):Rt 67 #[(vG v)] w (vG (bareG v)):=by
 obtain⟨a,b,s,c,d⟩:=v
 dsimp only[vG]
 go_enter Tryz.func67,Tryz.ntmps67
 go_wp2
 all_goals go_returns
 ·have h:(a==1)=true:= ‹_›
  have h:=eq_of_beq h;subst h
  exact⟨rfl,bel⟩
 ·have h:(a==2)=true:= ‹_›
  have h:=eq_of_beq h;subst h
  exact⟨rfl,bel⟩
 ·have h:(a==3)=true:= ‹_›
  have h:=eq_of_beq h;subst h
  exact⟨rfl,bel⟩
 ·have h:(a==4)=true:= ‹_›
  have h:=eq_of_beq h;subst h
  exact⟨rfl,bel⟩
 ·have h1:a≠1:=ne_of_beq_false ‹_›
  have h2:a≠2:=ne_of_beq_false ‹_›
  have h3:a≠3:=ne_of_beq_false ‹_›
  have h4:a≠4:=ne_of_beq_false ‹_›
  exact⟨by simp[bareG,h1,h2,h3,h4],bel⟩
end Go.Proofs.YtppghgnhlgoagaaGreatDoor
namespace Go.Proofs.YtppghgnhlgoagaaGreatDoor
open Go Go.RowKit Go.MapKept
def ents:List (ByteArray×Value)->Nat->List MapEntry
 | [],_=>[]
 | p::L,i=>⟨.string p.1,p.2,i⟩::ents L (i+1)
def findU (k:ByteArray):List (ByteArray×Value)->Option (Nat×Value)
 | []=>none
 | p::L=>if p.1=k then some (0,p.2) else (findU k L).map fun q=>(q.1+1,q.2)
def ups (k:ByteArray) (v:Value):List (ByteArray×Value)->List (ByteArray×Value)
 | []=>[(k,v)]
 | p::L=>if p.1=k then (k,v)::L else p::ups k v L
def getU (k:ByteArray) (L:List (ByteArray×Value)):Option Value:=(findU k L).map (·.2)
theorem getU_ups (k k':ByteArray) (v:Value) (L:List (ByteArray×Value)):getU k' (ups k v L)=if k=k' then some v else getU k' L:=by
 induction L with
 | nil=>by_cases h:k=k'<;>simp[getU,ups,findU,h]
 | cons p L ih =>
   unfold ups
   by_cases h:p.1=k
   ·rw[if_pos h]
    by_cases h':k=k'
    ·simp[getU,findU,h']
    ·have:p.1≠k':=fun e=>h' (h.symm.trans e)
     simp[getU,findU,h',this]
   ·rw[if_neg h]
    by_cases h':p.1=k'
    ·have:k≠k':=fun e=>h (h'.trans e.symm)
     simp[getU,findU,h',this]
    ·have e1:∀ M,getU k' (p::M)=getU k' M:=fun M=>by simp[getU,findU,h',Function.comp_def]
     rw[e1,e1,ih]
theorem find_ents (k:ByteArray) (L:List (ByteArray×Value)):∀ b i,Instr.findNow .string (.string k) (ents L b) i=some ((findU k L).map fun q=>(i+q.1,q.2)):=by
 induction L with
 | nil=>exact fun _ _=>rfl
 | cons p L ih =>
   intro b i
   by_cases h:p.1=k
   ·have hb:(k==p.1)=true:=by rw[h];exact(bytes_beq k k).2 rfl
    simp[ents,Instr.findNow,Instr.sameNow,findU,h,hb]
    rw[<- h] at hb ⊢
    simp[hb]
   ·have hb:(k==p.1)=false:=by
     cases hc:(k==p.1) with
     | false=>rfl
     | true=>exact absurd ((bytes_beq k p.1).1 hc).symm h
    simp only[ents,Instr.findNow,Instr.sameNow,hb,findU,if_neg h,ih,Option.map_map]
    congr 2
    funext q
    simp only[Function.comp]
    rw[Nat.add_assoc,Nat.add_comm 1]
theorem ents_ups (k:ByteArray) (v:Value) (L:List (ByteArray×Value)):∀ i,match findU k L with
  | some q=>ents (ups k v L) i=(ents L i).modify q.1 (fun e=> { e with key:=.string k,val:=v })/\(ups k v L).length=L.length/\(ents L i)[q.1]?.map (·.key)=some (.string k)
  | none=>ents (ups k v L) i=ents L i++[⟨.string k,v,i+L.length⟩]/\(ups k v L).length=L.length+1:=by
 induction L with
 | nil=>intro i;simp[findU,ups,ents]
 | cons p L ih =>
   intro i
   by_cases h:p.1=k
   ·simp[findU,ups,ents,h,List.modify]
   ·have:=ih (i+1)
    simp only[findU,if_neg h,ups]
    cases hf:findU k L with
    | none =>
      rw[hf] at this
      simp only[Option.map_none]
      obtain⟨h1,h2⟩:=this
      exact⟨by simp[ents,h1];omega,by simp[h2]⟩
    | some q =>
      rw[hf] at this
      simp only[Option.map_some]
      obtain⟨h1,h2,h3⟩:=this
      refine⟨?_,by simp[h2],?_⟩
      ·simp only[ents,h1];rfl
      ·simpa [ents] using h3
def zAI (w:World) (b:Nat) (L:List (ByteArray×Value)):World:= { w with heap:=w.heap.setIfInBounds b (.map (ents L 0).toArray L.length) }
section
variable {w:World} {b n i:Nat} {L:List (ByteArray×Value)} {v:Value}
theorem setMap_at (h:b<w.heap.size):(zAI w b L).heap[b]? =some (.map (ents L 0).toArray L.length):=by simp[zAI,h]
theorem setMap_other (h:b≠n):(zAI w b L).heap[n]? =w.heap[n]? :=by simp[zAI,h]
@[simp,go_sem] theorem setMap_size:(zAI w b L).heap.size=w.heap.size:=by simp[zAI]
@[go_sem] theorem setMap_cell (h:b≠n):(zAI w b L).cell? ⟨n,i,none⟩=w.cell? ⟨n,i,none⟩:=World.cell?_of_block (a:=⟨n,i,none⟩) (setMap_other h)
@[go_sem] theorem setMap_frozen (h:b≠n):(zAI w b L).frozen? ⟨n,i,none⟩=w.frozen? ⟨n,i,none⟩:=World.frozen?_of_block (a:=⟨n,i,none⟩) (setMap_other h)
@[go_sem] theorem setMap_setCell (h:b≠n):(zAI w b L).setCell ⟨n,i,none⟩ v=zAI (w.setCell ⟨n,i,none⟩ v) b L:=by
  unfold zAI World.setCell
  congr 1
  apply Array.ext_getElem?
  intro k
  simp only[Array.getElem?_modify,Array.getElem?_setIfInBounds,Array.size_modify]
  by_cases h1:n=k
  ·subst h1
   simp[h]
  ·rw[if_neg h1]
   by_cases h2:b=k
   ·rw[if_pos h2,if_pos h2]
   ·rw[if_neg h2,if_neg h2,if_neg h1]
@[go_sem] theorem setMap_alloc (o:Obj) (h:b<w.heap.size):(zAI w b L).alloc o=zAI (w.alloc o) b L:=by
  unfold zAI World.alloc
  congr 1
  apply Array.ext_getElem?
  intro k
  simp only[Array.getElem?_push,Array.getElem?_setIfInBounds,Array.size_setIfInBounds,Array.size_push]
  by_cases h1:k=w.heap.size
  ·subst h1
   simp[Nat.ne_of_lt h]
  ·simp only[if_neg h1]
   by_cases h2:b=k
   ·subst h2;simp[h];omega
   ·simp[h2]
@[go_sem] theorem drew_setMap:zAI w.drew b L=(zAI w b L).drew:=rfl
@[go_sem] theorem setMap_more {l:List Obj} (h:b<w.heap.size):more (zAI w b L) l n=zAI (more w l n) b L:=by
  unfold zAI more
  congr 1
  apply Array.ext_getElem?
  intro k
  simp only[Array.getElem?_append,Array.getElem?_setIfInBounds,Array.size_setIfInBounds,Array.size_append]
  by_cases h2:b=k
  ·subst h2;simp[h];omega
  ·by_cases h3:k<w.heap.size<;>simp[h2,h3]
theorem zBU {B:Nat} {a:World} (h:Below B a w) (hB:B<=b):Below B a (zAI w b L) :=
 h.trans ⟨rfl,rfl,rfl,by simp,fun k hk=>setMap_other (by omega)⟩
variable {P:Program} {k e t:TypeId}
theorem run_makeMapS (w:World) (t:TypeId):(Instr.makeMap t none).run P w=.ok (.map (some w.heap.size)) (zAI (w.alloc (.map #[] 0)) w.heap.size []):=by
 have e:zAI (w.alloc (.map #[] 0)) w.heap.size []=w.alloc (.map #[] 0):=by
  unfold zAI World.alloc
  congr 1
  apply Array.ext_getElem?
  intro k
  simp only[Array.getElem?_push,Array.getElem?_setIfInBounds,Array.size_push]
  by_cases h:w.heap.size=k
  ·subst h;simp[ents]
  ·simp[h,Ne.symm h]
 rw[e]
 exact run_makeMap t w
theorem run_storeS (hk:P.underlying k=some .string) (ht:P.underlying t=some (.map k e)) (w:World) (h:b<w.heap.size) (s:ByteArray) (v:Value) (L:List (ByteArray×Value)) :
  (Instr.mapUpdate t (.map (some b)) (.string s) v).run P (zAI w b L)=.ok () (zAI w b (ups s v L)):=by
 have hb:=setMap_at (L:=L) h
 have hf:=find_ents s L 0 0
 have he:=ents_ups s v L 0
 have hke:IsKey .string (.string s):=by simp[IsKey]
 have hset:∀ o:Obj,(setObj b o).run P (zAI w b L)=.ok () { w with heap:=w.heap.setIfInBounds b o } :=by
  intro o
  rw[MapKept.run_setObj_map _ hb]
  unfold zAI
  simp
 cases hq:findU s L with
 | none =>
   rw[hq] at hf he
   simp only[Option.map_none] at hf he
   simp[Instr.mapUpdate,run_underlying ht,MapKept.run_getObj_map hb,run_checkKey hk hke,run_findKey hk hf,hset,Result.andThen]
   unfold zAI
   rw[he.1,he.2]
   simp
 | some q =>
   rw[hq] at hf he
   simp only[Option.map_some,Nat.zero_add] at hf he
   obtain⟨h1,h2,h3⟩:=he
   have hkey:(((ents L 0).toArray[q.1]?).map (·.key)).getD (.string s)=.string s:=by
    rw[List.getElem?_toArray,h3];rfl
   simp only[Instr.mapUpdate,Sem.run_bind,run_underlying ht,Result.andThen,MapKept.run_getObj_map hb,run_checkKey hk hke,List.toList_toArray]
   rw[run_findKey hk hf]
   simp only[hkey,run_keyThatStays hke,hset,Sem.run_bind,Result.andThen]
   unfold zAI
   rw[h1,h2]
   simp
theorem run_lookS (hk:P.underlying k=some .string) (ht:P.underlying t=some (.map k e)) (z:Value) (hz:∀ w:World,(zeroValue e).run P w=.ok z w) (w:World) (h:b<w.heap.size) (s:ByteArray) (L:List (ByteArray×Value)) :
  (Instr.lookup t (.map (some b)) (.string s) true).run P (zAI w b L)=.ok (.tuple #[(getU s L).getD z,.bool (getU s L).isSome]) (zAI w b L):=by
 have hb:=setMap_at (L:=L) h
 have hf:=find_ents s L 0 0
 have hke:IsKey .string (.string s):=by simp[IsKey]
 unfold getU
 cases hq:findU s L with
 | none =>
   rw[hq] at hf
   simp only[Option.map_none] at hf
   simp[Instr.lookup,run_underlying ht,MapKept.run_getObj_map hb,run_checkKey hk hke,run_findKey hk hf,hz,Result.andThen]
 | some q =>
   rw[hq] at hf
   simp only[Option.map_some] at hf
   simp[Instr.lookup,run_underlying ht,MapKept.run_getObj_map hb,run_checkKey hk hke,run_findKey hk hf,Result.andThen]
end
theorem zCL {α:Type} (g:Value->Option α) (k s:ByteArray) (v:Value) (L:List (ByteArray×Value)):(getU s (ups k v L)).bind g=if k=s then g v else (getU s L).bind g:=by
 rw[getU_ups]
 by_cases h:k=s<;>simp[h]
theorem zCK {α:Type} (g:Value->Option α) (s:ByteArray):(getU s []).bind g=none:=rfl
def AllV (Q:Value->Prop) (L:List (ByteArray×Value)):Prop:=∀ s v,getU s L=some v->Q v
theorem AllV.nil (Q:Value->Prop):AllV Q []:=fun s v h=>by cases h
theorem AllV.ups {Q:Value->Prop} {k:ByteArray} {u:Value} {L:List (ByteArray×Value)} (h:AllV Q L) (hu:Q u):AllV Q (ups k u L):=fun s v hv=>by
 rw[getU_ups] at hv
 by_cases e:k=s
 ·rw[if_pos e] at hv;cases hv;exact hu
 ·rw[if_neg e] at hv;exact h s v hv
def FunN (v:Value):Prop:=∃ (x y:Int) (fn:Fn) (first cap:Array Value),v=.agg #[.int .i64 x,.int .i64 y,.func fn first cap]
def FunT (v:Value):Prop:=∃ (x:ByteArray) (y:Int) (fn:Fn) (first cap:Array Value),v=.agg #[.string x,.int .i64 y,.func fn first cap]
def FunA (v:Value):Prop:=∃ (x:ByteArray) (y z:Int) (fn:Fn) (first cap:Array Value),v=.agg #[.string x,.int .i64 y,.int .i64 z,.func fn first cap]
theorem funN (x y:Int) (fn:Fn) (first cap:Array Value):FunN (.agg #[.int .i64 x,.int .i64 y,.func fn first cap]):=⟨x,y,fn,first,cap,rfl⟩
theorem funT (x:ByteArray) (y:Int) (fn:Fn) (first cap:Array Value):FunT (.agg #[.string x,.int .i64 y,.func fn first cap]):=⟨x,y,fn,first,cap,rfl⟩
theorem funA (x:ByteArray) (y z:Int) (fn:Fn) (first cap:Array Value):FunA (.agg #[.string x,.int .i64 y,.int .i64 z,.func fn first cap]):=⟨x,y,z,fn,first,cap,rfl⟩
section
variable {P:Program} {ops:Array Oper} {rest:List Oper} {o:Oper} {a:Act} {Q:Exit->Act->World->Prop}
theorem wpList_look0 (hg:o.guard=none) (t:TypeId) (m x:Operand) (hop:o.op=Op.lookup t m x true) (k e:TypeId) (hk:P.underlying k=some .string) (ht:P.underlying t=some (.map k e)) (z:Value) (hz:∀ w:World,(zeroValue e).run P w=.ok z w)
  (w:World) (b:Nat) (L:List (ByteArray×Value)) (hm:a.eval m=.map (some b)) (hb:b<w.heap.size) (s:ByteArray) (hx:a.eval x=.string s)
  (hY:∀ v,getU s L=some v->wpList P ops Q rest (a.put o.dst (.tuple #[v,.bool true])) (zAI w b L)) (hN:getU s L=none->wpList P ops Q rest (a.put o.dst (.tuple #[z,.bool false])) (zAI w b L)):wpList P ops Q (o::rest) a (zAI w b L):=by
 refine wpList_plain hg fun K' hK'=> ?_
 unfold Oper.wp
 simp[execOp,hop,hm,hx,run_lookS hk ht z hz w hb s L,Result.andThen]
 cases h:getU s L with
 | none=>exact hK' _ _ (hN h)
 | some v=>exact hK' _ _ (hY v h)
theorem wpList_lookN (hg:o.guard=none) (t:TypeId) (m x:Operand) (hop:o.op=Op.lookup t m x true) (k e:TypeId) (hk:P.underlying k=some .string) (ht:P.underlying t=some (.map k e)) (z:Value) (hz:∀ w:World,(zeroValue e).run P w=.ok z w)
  (w:World) (b:Nat) (L:List (ByteArray×Value)) (hm:a.eval m=.map (some b)) (hb:b<w.heap.size) (s:ByteArray) (hx:a.eval x=.string s) (hA:AllV FunN L)
  (hY:∀ (c y:Int) (fn:Fn) (first cap:Array Value),RowKit.Hid (getU s L=some (.agg #[.int .i64 c,.int .i64 y,.func fn first cap]))->wpList P ops Q rest (a.put o.dst (.tuple #[.agg #[.int .i64 c,.int .i64 y,.func fn first cap],.bool true])) (zAI w b L)) (hN:RowKit.Hid (getU s L=none)->wpList P ops Q rest (a.put o.dst (.tuple #[z,.bool false])) (zAI w b L)):wpList P ops Q (o::rest) a (zAI w b L) :=
 wpList_look0 hg t m x hop k e hk ht z hz w b L hm hb s hx (fun v hv=>by
  obtain⟨c,y,fn,first,cap,rfl⟩:=hA s v hv
  exact hY c y fn first cap hv) hN
theorem wpList_lookT (hg:o.guard=none) (t:TypeId) (m x:Operand) (hop:o.op=Op.lookup t m x true) (k e:TypeId) (hk:P.underlying k=some .string) (ht:P.underlying t=some (.map k e)) (z:Value) (hz:∀ w:World,(zeroValue e).run P w=.ok z w)
  (w:World) (b:Nat) (L:List (ByteArray×Value)) (hm:a.eval m=.map (some b)) (hb:b<w.heap.size) (s:ByteArray) (hx:a.eval x=.string s) (hA:AllV FunT L)
  (hY:∀ (c:ByteArray) (y:Int) (fn:Fn) (first cap:Array Value),RowKit.Hid (getU s L=some (.agg #[.string c,.int .i64 y,.func fn first cap]))->wpList P ops Q rest (a.put o.dst (.tuple #[.agg #[.string c,.int .i64 y,.func fn first cap],.bool true])) (zAI w b L)) (hN:RowKit.Hid (getU s L=none)->wpList P ops Q rest (a.put o.dst (.tuple #[z,.bool false])) (zAI w b L)):wpList P ops Q (o::rest) a (zAI w b L) :=
 wpList_look0 hg t m x hop k e hk ht z hz w b L hm hb s hx (fun v hv=>by
  obtain⟨c,y,fn,first,cap,rfl⟩:=hA s v hv
  exact hY c y fn first cap hv) hN
theorem wpList_lookA (hg:o.guard=none) (t:TypeId) (m x:Operand) (hop:o.op=Op.lookup t m x true) (k e:TypeId) (hk:P.underlying k=some .string) (ht:P.underlying t=some (.map k e)) (z:Value) (hz:∀ w:World,(zeroValue e).run P w=.ok z w)
  (w:World) (b:Nat) (L:List (ByteArray×Value)) (hm:a.eval m=.map (some b)) (hb:b<w.heap.size) (s:ByteArray) (hx:a.eval x=.string s) (hA:AllV FunA L)
  (hY:∀ (c:ByteArray) (y y1:Int) (fn:Fn) (first cap:Array Value),RowKit.Hid (getU s L=some (.agg #[.string c,.int .i64 y,.int .i64 y1,.func fn first cap]))->wpList P ops Q rest (a.put o.dst (.tuple #[.agg #[.string c,.int .i64 y,.int .i64 y1,.func fn first cap],.bool true])) (zAI w b L)) (hN:RowKit.Hid (getU s L=none)->wpList P ops Q rest (a.put o.dst (.tuple #[z,.bool false])) (zAI w b L)):wpList P ops Q (o::rest) a (zAI w b L) :=
 wpList_look0 hg t m x hop k e hk ht z hz w b L hm hb s hx (fun v hv=>by
  obtain⟨c,y,y1,fn,first,cap,rfl⟩:=hA s v hv
  exact hY c y y1 fn first cap hv) hN
end
end Go.Proofs.YtppghgnhlgoagaaGreatDoor
namespace Go.Proofs.YtppghgnhlgoagaaGreatDoor.Div64
theorem split (v q:Nat):q*v=q*(v / 4294967296)*4294967296+q*(v % 4294967296):=by
 have h:=Nat.div_add_mod v 4294967296
 calc q*v=q*(4294967296*(v / 4294967296)+v % 4294967296):=by rw[h]
  _=q*(v / 4294967296)*4294967296+q*(v % 4294967296):=by rw[Nat.mul_add,Nat.mul_comm 4294967296,Nat.mul_assoc]
theorem le_of {v u d q r:Nat} (hv:0<v) (hi:q*(v / 4294967296)+r=u) (h2:q*(v % 4294967296)<=4294967296*r+d):q<=(u*4294967296+d) / v:=by
 rw[Nat.le_div_iff_mul_le hv,split v q]
 omega
theorem lt_of {v u d q r:Nat} (hv:0<v) (hi:q*(v / 4294967296)+r=u) (h2:4294967296*r+d<q*(v % 4294967296)):(u*4294967296+d) / v<q:=by
 rw[Nat.div_lt_iff_lt_mul hv,split v q]
 omega
theorem digit_lt {v u d:Nat} (hu:u<v) (hd:d<4294967296):(u*4294967296+d) / v<4294967296:=by
 rw[Nat.div_lt_iff_lt_mul (by omega)]
 have:(u+1)*4294967296<=v*4294967296:=Nat.mul_le_mul_right _ hu
 omega
theorem guess {v u d:Nat} (h0:9223372036854775808<=v) (hu:u<v) (hd:d<4294967296):(u*4294967296+d) / v<=u / (v / 4294967296)/\u / (v / 4294967296)<=4294967297:=by
 have hn:2147483648<=v / 4294967296:=by omega
 constructor
 ·rw[Nat.le_div_iff_mul_le (by omega)]
  have h1:(u*4294967296+d) / v*v<=u*4294967296+d:=Nat.div_mul_le_self _ _
  rw[split] at h1
  generalize (u*4294967296+d) / v*(v / 4294967296)=z at h1 ⊢
  omega
 ·have h1:u<(4294967297+1)*(v / 4294967296):=by omega
  have:=(Nat.div_lt_iff_lt_mul (show 0<v / 4294967296 by omega)).2 h1
  omega
theorem at_break {v u d q r:Nat} (hv:0<v) (hi:q*(v / 4294967296)+r=u) (hr:4294967296<=r) (hq:q<=4294967296):q<=(u*4294967296+d) / v:=by
 refine le_of hv hi ?_
 have h1:q*(v % 4294967296)<=4294967296*4294967296:=Nat.mul_le_mul hq (by omega)
 omega
structure Inv (v u d q r:Nat):Prop where
 inv:q*(v / 4294967296)+r=u
 low:r<4294967296
 top:q<=4294967297
 ge:(u*4294967296+d) / v<=q
theorem Inv.start {v u d:Nat} (h0:9223372036854775808<=v) (hv:v<18446744073709551616) (hu:u<v) (hd:d<4294967296):Inv v u d (u / (v / 4294967296)) (u-u / (v / 4294967296)*(v / 4294967296)):=by
 obtain⟨h1,h2⟩:=guess h0 hu hd
 have h3:=Nat.div_add_mod u (v / 4294967296)
 have h4:=Nat.mod_lt u (show 0<v / 4294967296 by omega)
 rw[Nat.mul_comm] at h3
 exact⟨by omega,by omega,h2,h1⟩
theorem Inv.fits {v u d q r:Nat} (h:Inv v u d q r) (hd:d<4294967296):q*(v % 4294967296)<18446744073709551616/\4294967296*r+d<18446744073709551616:=by
 have h1:q*(v % 4294967296)<=4294967297*4294967295:=Nat.mul_le_mul h.top (by omega)
 have h2:=h.low
 exact⟨by omega,by omega⟩
theorem Inv.done {v u d q r:Nat} (h:Inv v u d q r) (hv:0<v) (h2:q*(v % 4294967296)<=4294967296*r+d):q=(u*4294967296+d) / v :=
 Nat.le_antisymm (le_of hv h.inv h2) h.ge
theorem Inv.great {v u d q r:Nat} (h:Inv v u d q r) (hu:u<v) (hd:d<4294967296) (h2:4294967296<=q∨4294967296*r+d<q*(v % 4294967296)):(u*4294967296+d) / v+1<=q:=by
 rcases h2 with h2|h2
 ·have:=digit_lt hu hd;omega
 ·exact lt_of (by omega) h.inv h2
theorem one_less {q a r u:Nat} (hq:1<=q) (h:q*a+r=u):(q-1)*a+(r+a)=u:=by
 obtain⟨k,rfl⟩:∃ k,q=k+1:=⟨q-1,by omega⟩
 rw[Nat.succ_mul] at h
 rw[Nat.add_sub_cancel]
 omega
theorem Inv.round {v u d q r:Nat} (h:Inv v u d q r) (hg:(u*4294967296+d) / v+1<=q) (hr:r+v / 4294967296<4294967296):Inv v u d (q-1) (r+v / 4294967296) :=
 ⟨one_less (Nat.le_trans (Nat.le_add_left 1 _) hg) h.inv,hr,Nat.le_trans (Nat.sub_le _ _) h.top,Nat.le_sub_one_of_lt hg⟩
theorem Inv.brk {v u d q r:Nat} (h:Inv v u d q r) (hv:0<v) (hg:(u*4294967296+d) / v+1<=q) (hr:4294967296<=r+v / 4294967296):q-1=(u*4294967296+d) / v :=
 Nat.le_antisymm (at_break hv (one_less (Nat.le_trans (Nat.le_add_left 1 _) hg) h.inv) hr (by have:=h.top;omega)) (Nat.le_sub_one_of_lt hg)
theorem left_aux {A v q r:Nat} (h1:q*v+r=A) (h2:r<v) (hv2:v<18446744073709551616):(A+(18446744073709551616-q*v % 18446744073709551616)) % 18446744073709551616=r:=by
 subst h1
 have h3:=Nat.div_add_mod (q*v) 18446744073709551616
 have h4:=Nat.mod_lt (q*v) (show 0<18446744073709551616 by decide)
 have e:q*v+r+(18446744073709551616-q*v % 18446744073709551616)=r+18446744073709551616*(q*v / 18446744073709551616+1):=by omega
 rw[e,Nat.add_mul_mod_self_left,Nat.mod_eq_of_lt (by omega)]
theorem left {v u d q:Nat} (hv:0<v) (hv2:v<18446744073709551616) (hq:q=(u*4294967296+d) / v):(u*4294967296+d+(18446744073709551616-q*v % 18446744073709551616)) % 18446744073709551616=(u*4294967296+d) % v :=
 left_aux (by rw[hq,Nat.mul_comm];exact Nat.div_add_mod _ _) (Nat.mod_lt _ hv) hv2
theorem both_aux {N A v d0 q1 r1 q0 r0:Nat} (hv:0<v) (hN:N=A*4294967296+d0) (h1:v*q1+r1=A) (h2:v*q0+r0=r1*4294967296+d0) (h3:r0<v):N / v=q1*4294967296+q0/\N % v=r0:=by
 have e:N=r0+v*(q1*4294967296+q0):=by
  rw[Nat.mul_add,<-Nat.mul_assoc]
  omega
 rw[e]
 exact⟨by rw[Nat.add_mul_div_left _ _ hv,Nat.div_eq_of_lt h3,Nat.zero_add],by rw[Nat.add_mul_mod_self_left,Nat.mod_eq_of_lt h3]⟩
theorem both {N v u d0 d1:Nat} (hv:0<v) (hN:N=u*18446744073709551616+d1*4294967296+d0) :
  N / v=(u*4294967296+d1) / v*4294967296+((u*4294967296+d1) % v*4294967296+d0) / v/\N % v=((u*4294967296+d1) % v*4294967296+d0) % v :=
 both_aux hv (by rw[hN];omega) (Nat.div_add_mod _ _) (Nat.div_add_mod _ _) (Nat.mod_lt _ hv)
theorem shifted (hi lo s:Nat) (hs:s<=64):(hi*2 ^ s+lo / 2 ^ (64-s))*18446744073709551616+lo*2 ^ s % 18446744073709551616=(hi*18446744073709551616+lo)*2 ^ s:=by
 have h1:=Nat.div_add_mod (lo*2 ^ s) 18446744073709551616
 have h2:(18446744073709551616:Nat)=2 ^ (64-s)*2 ^ s:=by rw[<- Nat.pow_add,Nat.sub_add_cancel hs]
 have h3:lo*2 ^ s / 18446744073709551616=lo / 2 ^ (64-s):=by
  rw[h2,Nat.mul_div_mul_right _ _ (Nat.two_pow_pos s)]
 rw[h3] at h1
 generalize lo*2 ^ s % 18446744073709551616=m at *
 rw[Nat.add_mul,Nat.add_mul,Nat.mul_right_comm hi]
 omega
theorem shifted_lt {hi lo y s:Nat} (hs:s<=64) (hl:lo<18446744073709551616) (h:hi<y):hi*2 ^ s+lo / 2 ^ (64-s)<y*2 ^ s:=by
 have h2:(18446744073709551616:Nat)=2 ^ s*2 ^ (64-s):=by rw[<- Nat.pow_add,Nat.add_sub_cancel' hs]
 have h1:lo / 2 ^ (64-s)<2 ^ s:=(Nat.div_lt_iff_lt_mul (Nat.two_pow_pos _)).2 (by rw[<- h2];exact hl)
 have h3:(hi+1)*2 ^ s<=y*2 ^ s:=Nat.mul_le_mul_right _ h
 rw[Nat.succ_mul] at h3
 omega
theorem norm {y:Nat} (h0:0<y) (h1:y<18446744073709551616):Lib.bitLen y<=64/\1<=Lib.bitLen y/\9223372036854775808<=y*2 ^ (64-Lib.bitLen y)/\y*2 ^ (64-Lib.bitLen y)<18446744073709551616:=by
 obtain⟨a,b,c⟩:=Lib.bitLenAux_bounds 64 y h1 (by omega)
 have hb:Lib.bitLen y<=64:=Lib.bitLen_le y 64 (Nat.le_refl _) h1
 change 1<=Lib.bitLen y at a
 change 2 ^ (Lib.bitLen y-1)<=y at b
 change y<2 ^ Lib.bitLen y at c
 generalize Lib.bitLen y=n at *
 refine⟨hb,a,?_,?_⟩
 ·have:=Nat.mul_le_mul_right (2 ^ (64-n)) b
  rw[<- Nat.pow_add,show n-1+(64-n)=63 by omega] at this
  exact this
 ·have:=(Nat.mul_lt_mul_right (Nat.two_pow_pos (64-n))).2 c
  rw[<- Nat.pow_add,show n+(64-n)=64 by omega] at this
  exact this
theorem or_sum {s a b:Nat} (h:b<2 ^ s):(a*2 ^ s) ||| b=a*2 ^ s+b:=by
 rw[Nat.mul_comm,Nat.two_pow_add_eq_or_of_lt h]
end Go.Proofs.YtppghgnhlgoagaaGreatDoor.Div64
