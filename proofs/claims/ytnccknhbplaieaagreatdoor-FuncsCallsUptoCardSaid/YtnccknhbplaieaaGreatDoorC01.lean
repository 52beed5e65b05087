/- Parts. -/
import Derived.Test.YtnccknhbplaieaaGreatDoorProg
import Derived.WalkKit
import Derived.Maps.OwnSet
import Derived.Handy
import Derived.Lib.Hide
import Derived.Deep.Draws
import Derived.WalkLawsBesides
import Derived.Deep.QuietTactic
import Derived.BigQuiet
import Derived.Laws.BitsLemmas
set_option linter.all false
set_option maxRecDepth 100000
set_option maxHeartbeats 4000000
namespace Go.Proofs.YtnccknhbplaieaaGreatDoor
open Go Go.Maps Go.WideMaps
def rdv (v:Value):Option (DataW Value×List MemPlace):=some (.held v,[])
def mkD (es:List (ByteArray×Value)):DataW Value:=es.foldl (fun D p=>D.put (.string p.1.data.toList) (.held p.2)) (.map [])
def getS (es:List (ByteArray×Value)) (k:ByteArray):Option Value:=es.foldl (fun o p=>if p.1=k then some p.2 else o) none
theorem mkD_snoc (es:List (ByteArray×Value)) (s:ByteArray) (v:Value):mkD (es++[(s,v)])=(mkD es).put (.string s.data.toList) (.held v):=by
 simp[mkD,List.foldl_append]
theorem bytes_inj {a b:ByteArray} (h:a.data.toList=b.data.toList):a=b:=by
 obtain⟨⟨x⟩⟩:=a;obtain⟨⟨y⟩⟩:=b;simp at h;rw[h]
theorem spec_fold (es:List (ByteArray×Value)) (k:ByteArray) (z:Value):∀ (D:DataW Value) (o:Option Value),IsMap D->Maps.has D (.string k.data.toList)=o.isSome->D.atKey (.string k.data.toList) (.held z)=.held (o.getD z) ->
  Maps.has (es.foldl (fun D p=>D.put (.string p.1.data.toList) (.held p.2)) D) (.string k.data.toList)=(es.foldl (fun o p=>if p.1=k then some p.2 else o) o).isSome /\
  (es.foldl (fun D p=>D.put (.string p.1.data.toList) (.held p.2)) D).atKey (.string k.data.toList) (.held z)=.held ((es.foldl (fun o p=>if p.1=k then some p.2 else o) o).getD z):=by
 induction es with
 | nil=>exact fun D o _ h1 h2=>⟨h1,h2⟩
 | cons p es ih =>
   intro D o hm h1 h2;obtain⟨s,v⟩:=p;refine ih _ _ (hm.put _ _) ?_ ?_
   ·by_cases h:s=k
    ·subst h;simp only[if_true];rw[has_put_same hm (by simp[WideAt.IsKeyLit])];rfl
    ·have ha:(Lit.string k.data.toList)≠.string s.data.toList:=fun e=>h (bytes_inj (by injection e with e;exact e.symm));simp only[if_neg h];rw[has_put_other ha,h1]
   ·by_cases h:s=k
    ·subst h;simp only[if_true];rw[atKey_put_same hm (by simp[WideAt.IsKeyLit])];rfl
    ·have ha:(Lit.string k.data.toList)≠.string s.data.toList:=fun e=>h (bytes_inj (by injection e with e;exact e.symm));simp only[if_neg h];rw[atKey_put_other ha,h2]
theorem mkD_spec (es:List (ByteArray×Value)) (k:ByteArray) (z:Value) :
  Maps.has (mkD es) (.string k.data.toList)=(getS es k).isSome/\(mkD es).atKey (.string k.data.toList) (.held z)=.held ((getS es k).getD z) :=
 spec_fold es k z _ _ isMap_empty rfl rfl
def zB9 (P:Program) (k:TypeId) (w:World) (b:Nat) (es:List (ByteArray×Value)):Prop:=w.ownsMap P k rdv b es.length (mkD es)
section
variable {P:Program} {k e t:TypeId} {w w':World} {b:Nat} {es:List (ByteArray×Value)}
theorem zB9.made (P:Program) (k:TypeId) (w:World):zB9 P k (w.alloc (.map #[] 0)) w.heap.size []:=World.ownsMap_made w P k rdv
theorem zB9.lt (h:zB9 P k w b es):b<w.heap.size:=World.ownsMap.lt h
theorem zB9.alloc (h:zB9 P k w b es) (o:Obj):zB9 P k (w.alloc o) b es:=World.ownsMap.alloc h o
theorem zB9.drew (h:zB9 P k w b es):zB9 P k w.drew b es:=h
theorem zB9.grown {row:Option Nat} (h:zB9 P k w b es) (hg:w.grownBy w' row) (hne:some b≠row):zB9 P k w' b es:=World.ownsMap.kept h hg hne
theorem zB9.below {B:Nat} (h:zB9 P k w b es) (hb:RowKit.Below B w w') (hlt:b<B):zB9 P k w' b es:=by
 obtain⟨xs,clock,hx,r⟩:=h;exact⟨xs,clock,(hb.block b hlt).trans hx,r⟩
theorem zB9.setCell (h:zB9 P k w b es) {a:Addr} (ha:b≠a.block) (u:Value):zB9 P k (w.setCell a u) b es:=World.ownsMap.setCell h ha u
theorem zB9.look1 (h:zB9 P k w b es) (hk:P.underlying k=some .string) (ht:P.underlying t=some (.map k e)) {z:Value} (hz:(zeroValue e).run P w=.ok z w) (s:ByteArray) (hs:s.size<=maxLen) :
  (Instr.lookup t (.map (some b)) (.string s) false).run P w=.ok ((getS es s).getD z) w:=by
 obtain⟨v,ps,ha,hv⟩:=World.ownsMap.lookup h (string_keyed hk) ht hz (zd:=.held z) (zp:=[]) rfl (keyOf_string_mk hk hs);obtain⟨_,h2⟩:=mkD_spec es s z;rw[ha];rw[h2] at hv;simp only[rdv,Option.some.injEq,Prod.mk.injEq,DataW.held.injEq] at hv;rw[hv.1]
theorem zB9.update (h:zB9 P k w b es) (hk:P.underlying k=some .string) (ht:P.underlying t=some (.map k e)) (hn:es.length<maxLen) (s:ByteArray) (hs:s.size<=maxLen) (v:Value) :
  ∃ w',(Instr.mapUpdate t (.map (some b)) (.string s) v).run P w=.ok () w'/\zB9 P k w' b (es++[(s,v)])/\w.grownBy w' (some b):=by
 obtain⟨w',ha,h1,h2⟩:=World.ownsMap.update h (string_keyed hk) ht hn (val:=v) (d:=.held v) (ps:=[]) (keyOf_string_mk hk hs) rfl;refine⟨w',ha,?_,h2⟩;unfold zB9;rw[mkD_snoc,List.length_append];exact h1
end
section
variable {P:Program} {ops:Array Oper} {rest:List Oper} {o:Oper} {a:Act} {Q:Exit->Act->World->Prop}
end
end Go.Proofs.YtnccknhbplaieaaGreatDoor
namespace Go.Proofs.YtnccknhbplaieaaGreatDoor
open Go Go.RowKit Go.Proofs.Tryz
def more (w:World) (l:List Obj) (n:Nat):World:= { w with heap:=w.heap++l.toArray,drawn:=n }
section
variable {w w':World} {l l':List Obj} {n n' b i:Nat} {v:Value}
@[simp,go_sem] theorem zBo:(more w l n).heap.size=w.heap.size+l.length:=by simp[more]
theorem zBh (h:b<w.heap.size):(more w l n).heap[b]? =w.heap[b]? :=by
 show (w.heap++l.toArray)[b]? =_;rw[Array.getElem?_append_left h]
@[go_sem] theorem more_cell (h:b<w.heap.size):(more w l n).cell? ⟨b,i,none⟩=w.cell? ⟨b,i,none⟩:=World.cell?_of_block (a:=⟨b,i,none⟩) (zBh h)
@[go_sem] theorem more_frozen (h:b<w.heap.size):(more w l n).frozen? ⟨b,i,none⟩=w.frozen? ⟨b,i,none⟩:=World.frozen?_of_block (a:=⟨b,i,none⟩) (zBh h)
@[go_sem] theorem more_setCell (h:b<w.heap.size):(more w l n).setCell ⟨b,i,none⟩ v=more (w.setCell ⟨b,i,none⟩ v) l n:=by
  unfold World.setCell more
  congr 1
  apply Array.ext_getElem?;intro k;simp only[Array.getElem?_modify,Array.getElem?_append,Array.size_modify];by_cases hk:b=k
  ·subst hk;simp[h]
  ·simp[hk]
@[go_sem] theorem more_drew:(more w l n).drew=more w l (n+1):=rfl
@[go_sem] theorem more_drewN (k:Nat):(more w l n).drewN k=more w l (n+k):=rfl
@[go_sem] theorem drew_more:more w.drew l n=more w l n:=rfl
@[go_sem] theorem drewN_more (k:Nat):more (w.drewN k) l n=more w l n:=rfl
@[go_sem] theorem zAQ:more (more w l n) l' n'=more w (l++l') n':=by
  unfold more;simp
theorem zAf {B:Nat} (h:B<=w.heap.size):Below B w (more w l n):=⟨rfl,rfl,rfl,by simp[more],fun k hk=>zBh (by omega)⟩
theorem below_more' {B:Nat} {a:World} (h:Below B a w) (hB:B<=w.heap.size):Below B a (more w l n):=h.trans (zAf hB)
theorem zA0 (h:Below w.heap.size w w'):∃ l n,w'=more w l n:=by
 refine⟨(w'.heap.toList.drop w.heap.size),w'.drawn,?_⟩;obtain⟨h1,h2,h3,h4,h5⟩:=h;have e:w'.heap=w.heap++(w'.heap.toList.drop w.heap.size).toArray:=by
  apply Array.ext_getElem?;intro k;rw[Array.getElem?_append];by_cases hk:k<w.heap.size
  ·rw[if_pos hk];exact h5 k hk
  ·rw[if_neg hk];simp only[List.getElem?_toArray,List.getElem?_drop,Array.getElem?_toList]
   congr 1
   omega
 cases w' with
 | mk hp tp dr os out =>
   simp only at h1 h2 h3 e ⊢;subst h1 h2 h3;unfold more;rw[<- e]
end
@[go_sem] theorem lt_len {n a:Nat} {l:List Obj} (h:n<a):n<a+l.length:=Nat.lt_of_lt_of_le h (Nat.le_add_right _ _)
@[go_sem] theorem lt_len1 {n a:Nat} {l:List Obj} (h:n<a+l.length):n<a+l.length+1:=Nat.lt_succ_of_lt h
@[go_sem] theorem lt_len2 {n a:Nat} {l:List Obj} (h:n<a+l.length+1):n<a+l.length+1+1:=Nat.lt_succ_of_lt h
@[go_sem] theorem lt_len3 {n a:Nat} {l:List Obj} (h:n<a+l.length+1+1):n<a+l.length+1+1+1:=Nat.lt_succ_of_lt h
@[go_sem] theorem le_len {n a:Nat} {l:List Obj} (h:n<=a):n<=a+l.length:=Nat.le_trans h (Nat.le_add_right _ _)
@[go_sem] theorem le_len1 {n a:Nat} {l:List Obj} (h:n<=a):n<=a+l.length+1:=by omega
@[go_sem] theorem le_len2 {n a:Nat} {l:List Obj} (h:n<=a):n<=a+l.length+1+1:=by omega
@[go_sem] theorem eq_len {b a:Nat} {l:List Obj} (h:b<a):(b=a+l.length)=False:=by simp;omega
@[go_sem] theorem eq_len1 {b a:Nat} {l:List Obj} (h:b<a):(b=a+l.length+1)=False:=by simp;omega
@[go_sem] theorem eq_len2 {b a:Nat} {l:List Obj} (h:b<a):(b=a+l.length+1+1)=False:=by simp;omega
@[go_sem] theorem eq_len3 {b a:Nat} {l:List Obj} (h:b<a):(b=a+l.length+1+1+1)=False:=by simp;omega
@[go_sem] theorem eq_lenr {b a:Nat} {l:List Obj} (h:b<a):(a+l.length=b)=False:=by simp;omega
theorem zBb {B:Nat} {a w:World} (h:Below B a w) (o:Obj) (hB:B<=w.heap.size):Below B a (w.alloc o):=h.alloc hB o
theorem below_drewN {B:Nat} {a w:World} (h:Below B a w) (n:Nat):Below B a (w.drewN n):=⟨h.os,h.tape,h.output,h.size,h.block⟩
theorem bel {B:Nat} {a w:World} (h:Below B a w:=by (with_reducible repeat' (first|exact .refl _ _|assumption|refine below_more' ?_ ?_|refine zBb ?_ _ ?_|refine .drew ?_|refine .setCell ?_ ?_ _|refine below_drewN ?_ _))<;>go_size):Below B a w:=h
abbrev zObj:Obj:=.cells #[.int .i64 0,.int .i64 0,.string ⟨#[]⟩,.bool false,.int .i64 0] 29
theorem cltK {w:World} {b i:Nat} {v:Value} (h:w.cell? ⟨b,i,none⟩=some v):b<w.heap.size:=World.block_lt_of_cell? w _ h
abbrev Rt (f:FuncId) (xs:Array Value) (w:World) (v:Value):Prop:=Calls prog f xs w fun e w'=>e=.returned v/\Below w.heap.size w w'
theorem mB {P:Program} {f:FuncId} {xs:Array Value} {w:World} {X:Ending} {Q:Ending->World->Prop} (h:Calls P f xs w fun e w'=>e=X/\Below w.heap.size w w') (k:∀ l n,Q X (more w l n)):Calls P f xs w Q:=by
 refine h.mono ?_;rintro e w1 ⟨rfl,hb⟩;obtain⟨l,n,rfl⟩:=zA0 hb;exact k l n
theorem tk5 {P:Nat->Value->Prop} {u0 u1 u2 u3 u4:Value} {r:List Value} (h:∀ i u,(u0::u1::u2::u3::u4::r)[i]? =some u->P i u):P 0 u0/\P 1 u1/\P 2 u2/\P 3 u3/\P 4 u4:=⟨h 0 _ rfl,h 1 _ rfl,h 2 _ rfl,h 3 _ rfl,h 4 _ rfl⟩
theorem tk7 {P:Nat->Value->Prop} {u0 u1 u2 u3 u4 u5 u6:Value} {r:List Value} (h:∀ i u,(u0::u1::u2::u3::u4::u5::u6::r)[i]? =some u->P i u):P 0 u0/\P 1 u1/\P 2 u2/\P 3 u3/\P 4 u4/\P 5 u5/\P 6 u6:=⟨h 0 _ rfl,h 1 _ rfl,h 2 _ rfl,h 3 _ rfl,h 4 _ rfl,h 5 _ rfl,h 6 _ rfl⟩
theorem tkB {P:Nat->Value->Prop} {u0 u1 u2 u3 u4 u5 u6 u7 u8 u9 u10:Value} {r:List Value} (h:∀ i u,(u0::u1::u2::u3::u4::u5::u6::u7::u8::u9::u10::r)[i]? =some u->P i u):P 0 u0/\P 1 u1/\P 2 u2/\P 3 u3/\P 4 u4/\P 5 u5/\P 6 u6/\P 7 u7/\P 8 u8/\P 9 u9/\P 10 u10:=⟨h 0 _ rfl,h 1 _ rfl,h 2 _ rfl,h 3 _ rfl,h 4 _ rfl,h 5 _ rfl,h 6 _ rfl,h 7 _ rfl,h 8 _ rfl,h 9 _ rfl,h 10 _ rfl⟩
theorem tkV {P:Nat->Value->Prop} {u0 u1 u2 u3 u4 u5:Value} {r:List Value} (h:∀ i u,(u0::u1::u2::u3::u4::u5::r)[i]? =some u->P i u):P 1 u1/\P 2 u2/\P 3 u3/\P 4 u4/\P 5 u5:=⟨h 1 _ rfl,h 2 _ rfl,h 3 _ rfl,h 4 _ rfl,h 5 _ rfl⟩
theorem lt_ {α:Sort _} (a:α):∃ x,a=x:=⟨a,rfl⟩
theorem rb_ {α:Type _} {x:α} {B:Nat} {a w:World} (h:Below B a w:=by (with_reducible repeat' (first|exact .refl _ _|assumption|refine below_more' ?_ ?_|refine zBb ?_ _ ?_|refine .drew ?_|refine .setCell ?_ ?_ _|refine below_drewN ?_ _))<;>go_size):x=x/\Below B a w:=⟨rfl,h⟩
def minI:Int:= -9223372036854775808
theorem zAX (x:Int) (w:World):Calls prog 86 #[.int .i64 x] w fun e w'=>e=.returned (.bool (x != minI))/\w=w':=by
 go_enter func86,ntmps86;go_wp2;go_ret;exact⟨rfl,rfl⟩
structure V where
 tag:Int
 num:Int
 str:ByteArray
 is:Bool
 code:Int
deriving DecidableEq
abbrev vG (v:V):Value:=.agg #[.int .i64 v.tag,.int .i64 v.num,.string v.str,.bool v.is,.int .i64 v.code]
@[go_sem] theorem vG_def (v:V):vG v=.agg #[.int .i64 v.tag,.int .i64 v.num,.string v.str,.bool v.is,.int .i64 v.code]:=rfl
def isCode (c:Int):Bool:=decide (1<=c)&&decide (c<=8)
def errC (c:Int):Int:=if isCode c then c else 8
def zAa (b:Bool):V:=⟨3,0,⟨#[]⟩,b,0⟩
def errG (c:Int):V:=⟨4,0,⟨#[]⟩,false,errC c⟩
def numG (x:Int):V:=if x=minI then ⟨4,0,⟨#[]⟩,false,2⟩ else ⟨1,x,⟨#[]⟩,false,0⟩
def txtG (s:ByteArray):V:=⟨2,0,s,false,0⟩
def bareG (v:V):V:=⟨v.tag,if v.tag=1 then 0 else v.num,if v.tag=2 then ⟨#[]⟩ else v.str,if v.tag=3 then false else v.is,if v.tag=4 then 0 else v.code⟩
def nameS (c:Nat):ByteArray:=if c=1 then ⟨#[35,67,89,67,76,69,33]⟩ else if c=2 then ⟨#[35,78,85,77,33]⟩ else if c=3 then ⟨#[35,68,73,86,33]⟩ else if c=4 then ⟨#[35,84,89,80,69,33]⟩
 else if c=5 then ⟨#[35,82,65,78,71,69,33]⟩ else if c=6 then ⟨#[35,77,73,83,83,33]⟩ else if c=7 then ⟨#[35,76,79,78,71,33]⟩ else if c=8 then ⟨#[35,65,82,71,33]⟩ else ⟨#[]⟩
def namesA:Value:=.agg #[.string (nameS 0),.string (nameS 1),.string (nameS 2),.string (nameS 3),.string (nameS 4),.string (nameS 5),.string (nameS 6),.string (nameS 7),.string (nameS 8)]
theorem value_names (w:World):Rt 90 #[] w namesA:=by
 go_enter func90,ntmps90;go_wp2;go_returns;exact⟨rfl,by go_grown⟩
theorem idx_names (c:Nat) (h:c<=8) (w:World):(Instr.index 130 namesA (.int .i64 c)).run prog w=.ok (.string (nameS c)) w:=by
 have h:c=0∨c=1∨c=2∨c=3∨c=4∨c=5∨c=6∨c=7∨c=8:=by omega
 rcases h with rfl|rfl|rfl|rfl|rfl|rfl|rfl|rfl|rfl;all_goals(show _=_;kernel_rfl)
theorem value_Name (c:Int) (w:World):Rt 33 #[.int .i64 c] w (.string (nameS c.toNat)):=by
 by_cases h:c<0∨8<c
 ·have e:nameS c.toNat=⟨#[]⟩:=by
   unfold nameS;rcases h with h|h
   ·rw[show c.toNat=0 by omega];rfl
   ·simp(disch:=omega) [show c.toNat≠1 by omega,show c.toNat≠2 by omega,show c.toNat≠3 by omega,show c.toNat≠4 by omega,show c.toNat≠5 by omega,show c.toNat≠6 by omega,show c.toNat≠7 by omega,show c.toNat≠8 by omega]
  rw[e];rcases h with h|h
  ·go_enter func33,ntmps33;go_wp2;go_ret;exact⟨rfl,by go_grown⟩
  ·have h0: ¬ c<0:=by omega
   go_enter func33,ntmps33;go_wp2;go_ret;exact⟨rfl,by go_grown⟩
 ·obtain⟨n,rfl⟩:=Int.eq_ofNat_of_zero_le (show 0<=c by omega);have hn:n<=8:=by omega
  have hi:=idx_names n hn;rw[Int.toNat_natCast];go_enter func33,ntmps33;go_wp2_with(go_at_call 90;refine(value_names _).mono ?_;rintro e w1 ⟨rfl,hb⟩)
  go_ret;exact⟨rfl,hb⟩
theorem value_Truth (b:Bool) (w:World):Rt 178 #[.bool b] w (vG (zAa b)):=by
 go_enter func178,ntmps178;go_wp2;go_returns;exact rb_
theorem value_Txt (s:ByteArray) (w:World):Rt 312 #[.string s] w (vG (txtG s)):=by
 go_enter func312,ntmps312;go_wp2;go_returns;exact rb_
theorem name_empty (c:Int):(nameS c.toNat).toList.isEmpty= !isCode c:=by
 by_cases h:1<=c/\c<=8
 ·have h:c=1∨c=2∨c=3∨c=4∨c=5∨c=6∨c=7∨c=8:=by omega
  rcases h with rfl|rfl|rfl|rfl|rfl|rfl|rfl|rfl<;>decide +kernel
 ·have e:isCode c=false:=by unfold isCode;rw[Bool.and_eq_false_iff];simp;omega
  rw[e];unfold nameS;simp[show c.toNat≠1 by omega,show c.toNat≠2 by omega,show c.toNat≠3 by omega,show c.toNat≠4 by omega,show c.toNat≠5 by omega,show c.toNat≠6 by omega,show c.toNat≠7 by omega,show c.toNat≠8 by omega]
theorem errC_of (c:Int) (h:(nameS c.toNat).toList.isEmpty=true):errC c=8:=by
 rw[name_empty] at h;simp at h;simp[errC,h]
theorem errC_of' (c:Int) (h:(nameS c.toNat).toList.isEmpty=false):errC c=c:=by
 rw[name_empty] at h;simp at h;simp[errC,h]
theorem zA3 (c:Int) (w:World):Rt 13 #[.int .i64 c] w (vG (errG c)):=by
 go_enter func13,ntmps13;go_wp2_with fail;refine(value_Name _ _).mono ?_;rintro e w1 ⟨rfl,hb⟩;obtain⟨l,n,rfl⟩:=zA0 hb;clear hb;go_wp2;all_goals go_returns
 ·exact⟨by unfold errG;rw[errC_of c ‹_›],bel⟩
 ·exact⟨by unfold errG;rw[errC_of' c ‹_›],bel⟩
theorem zB2 (x:Int) (w:World):Rt 140 #[.int .i64 x] w (vG (numG x)):=by
 go_enter func140,ntmps140;go_wp2_with(first|(go_at_call 86;refine(zAX _ _).mono ?_;rintro e w1 ⟨rfl,rfl⟩)|(go_at_call 13;refine mB (zA3 _ _) ?_;intro l n))
 all_goals go_returns
 ·have h:(!x != minI)=true:= ‹_›;have e:numG x=errG 2:=by simp at h;unfold numG;rw[if_pos h];rfl
  exact⟨by rw[e],bel⟩
 ·have h:(!x != minI)=false:= ‹_›;have e:numG x=⟨1,x,⟨#[]⟩,false,0⟩:=by simp at h;unfold numG;rw[if_neg h]
  exact⟨by rw[e],bel⟩
theorem value_bare (v:V) (w:World):Rt 85 #[(vG v)] w (vG (bareG v)):=by
 obtain⟨a,b,s,c,d⟩:=v;dsimp only[vG];go_enter func85,ntmps85;go_wp2;all_goals go_returns
 ·have h:(a==1)=true:= ‹_›;have h:=eq_of_beq h;subst h;exact rb_
 ·have h:(a==2)=true:= ‹_›;have h:=eq_of_beq h;subst h;exact rb_
 ·have h:(a==3)=true:= ‹_›;have h:=eq_of_beq h;subst h;exact rb_
 ·have h:(a==4)=true:= ‹_›;have h:=eq_of_beq h;subst h;exact rb_
 ·have h1:a≠1:=ne_of_beq_false ‹_›;have h2:a≠2:=ne_of_beq_false ‹_›;have h3:a≠3:=ne_of_beq_false ‹_›;have h4:a≠4:=ne_of_beq_false ‹_›;exact⟨by simp[bareG,h1,h2,h3,h4],bel⟩
open Go.Lib renaming hid->zh
def Reads (w:World) (B size:Nat) (A:Option Addr) (n:Nat) (xs:List Value):Prop :=
 xs.length=n*size/\(0<n->∃ b off,A=some ⟨b,off,none⟩/\b<B/\∀ j u,xs[j]? =some u->w.cell? ⟨b,off+j,none⟩=some u)
theorem Reads.keep {w w':World} {B B' size n:Nat} {A:Option Addr} {xs:List Value} (h:Reads w B size A n xs) (hk:∀ b i v,b<B->w.cell? ⟨b,i,none⟩=some v->w'.cell? ⟨b,i,none⟩=some v) (hB:B<=B'):Reads w' B' size A n xs :=
 ⟨h.1,fun hn=>by
  obtain⟨b,off,e,hb,hc⟩:=h.2 hn;exact⟨b,off,e,by omega,fun j u hu=>hk _ _ _ hb (hc j u hu)⟩⟩
theorem Reads.below {w w':World} {B size n:Nat} {A:Option Addr} {xs:List Value} (h:Reads w B size A n xs) (hb:Below B w w'):Reads w' B size A n xs :=
 h.keep (fun b i v hlt hv=>(hb.cell (p:=⟨b,i,none⟩) hlt).trans hv) (Nat.le_refl _)
def OneCell (w:World) (b:Nat):Prop:=b<w.heap.size/\∀ i v,w.cell? ⟨b,i,none⟩=some v->i=0
theorem OneCell.of_block {w w':World} {b:Nat} (h:OneCell w b) (hs:w.heap.size<=w'.heap.size) (e:w'.heap[b]? =w.heap[b]?):OneCell w' b :=
 ⟨Nat.lt_of_lt_of_le h.1 hs,fun i v hv=>h.2 i v ((World.cell?_of_block (w:=w) (w':=w') (a:=⟨b,i,none⟩) e).symm.trans hv)⟩
theorem one_alloc (w:World) (c:Value) (t:TypeId):OneCell (w.alloc (.cells #[c] t)) w.heap.size:=by
 refine⟨by simp,fun i v hv=> ?_⟩;rw[cell_of_row (w.alloc (.cells #[c] t)) w.heap.size i #[c] t (0,0) (heap_alloc_new w _)] at hv;have:=(Array.getElem?_eq_some_iff.1 hv).1;simp at this;exact this
structure Keeps (w w':World):Prop where
 cell:∀ b i v,w.cell? ⟨b,i,none⟩=some v->w'.cell? ⟨b,i,none⟩=some v
 one:∀ b,OneCell w b->OneCell w' b
theorem keeps_refl (w:World):Keeps w w:=⟨fun _ _ _ h=>h,fun _ h=>h⟩
theorem Keeps.trans {a b c:World} (h:Keeps a b) (k:Keeps b c):Keeps a c:=⟨fun n i v hv=>k.cell n i v (h.cell n i v hv),fun b hb=>k.one b (h.one b hb)⟩
theorem keeps_alloc {a w:World} (h:Keeps a w) (o:Obj):Keeps a (w.alloc o):=by
 refine⟨fun n i v hv=> ?_,fun b hb=>(h.one b hb).of_block (by simp) (Below.heap_alloc w o b (h.one b hb).1)⟩;have h1:=h.cell n i v hv;rw[World.cell?_alloc_past _ _ _ (World.block_lt_of_cell? w _ h1)];exact h1
theorem keeps_more {a w:World} (h:Keeps a w) (l:List Obj) (k:Nat):Keeps a (more w l k):=by
 refine⟨fun n i v hv=> ?_,fun b hb=>(h.one b hb).of_block (by simp) (zBh (h.one b hb).1)⟩;have h1:=h.cell n i v hv;rw[more_cell (World.block_lt_of_cell? w _ h1)];exact h1
theorem keeps_drew {a w:World} (h:Keeps a w):Keeps a w.drew:=⟨h.cell,h.one⟩
theorem keeps_drewN {a w:World} (h:Keeps a w) (n:Nat):Keeps a (w.drewN n):=⟨h.cell,h.one⟩
theorem zAr {w w':World} (h:Below w.heap.size w w'):Keeps w w':=⟨fun n i v hv=>(h.cell (p:=⟨n,i,none⟩) (World.block_lt_of_cell? w _ hv)).trans hv,fun b hb=>hb.of_block h.size (h.block b hb.1)⟩
theorem Reads.keeps {w w':World} {B size n:Nat} {A:Option Addr} {xs:List Value} (h:Reads w B size A n xs) (hk:Keeps w w'):Reads w' B size A n xs :=
 h.keep (fun b i v _ hv=>hk.cell b i v hv) (Nat.le_refl _)
theorem Reads.lift {w:World} {B B' size n:Nat} {A:Option Addr} {xs:List Value} (h:Reads w B size A n xs) (hB:B<=B'):Reads w B' size A n xs:=h.keep (fun _ _ _ _ hv=>hv) hB
def zAU (xs:List Bool):Bool:=xs.contains true
def NoTrue (xs:List Bool) (k:Nat):Prop:=∀ j,j<k->xs[j]? ≠some true
theorem noTrue_step {xs:List Bool} {k:Nat} (h:NoTrue xs k) (hk:(xs.getD k false)=false):NoTrue xs (k+1):=by
 intro j hj;by_cases e:j=k
 ·subst e;intro h';simp[List.getD,h'] at hk
 ·exact h j (by omega)
theorem noTrue_end {xs:List Bool} {n:Nat} (h:NoTrue xs n) (hn:xs.length=n):zAU xs=false:=by
 unfold zAU;rw[List.contains_eq_mem];simp only[decide_eq_false_iff_not];intro hm;obtain⟨j,hj⟩:=List.mem_iff_getElem?.1 hm;have:j<xs.length:=(List.getElem?_eq_some_iff.1 hj).1;exact h j (by omega) hj
theorem hasTrue_of {xs:List Bool} {k:Nat} (h:(xs.getD k false)=true):zAU xs=true:=by
 unfold zAU;simp only[List.getD] at h;cases hx:xs[k]? with
 | none=>rw[hx] at h;cases h
 | some v =>
   rw[hx] at h;simp at h;subst h
   simpa using List.mem_of_getElem? hx
def IdxSays (xs:List Bool) (e:Ending):Prop:=∃ r:Int,e=.returned (.int .i64 r)/\(decide (0<=r)=zAU xs)
theorem index_bools (A:Option Addr) (n c B:Nat) (xs:List Bool) (w:World) (hr:Reads w B 1 A n (xs.map Value.bool)) (hm:n<=9223372036854775807) :
  Calls prog 206 #[.slice A n c,.bool true] w fun e w'=>IdxSays xs e/\w=w':=by
 have hb:xs.length=n:=by have:=hr.1;simpa using this
 by_cases h0:n=0
 ·subst h0;have hx:xs=[]:=by simpa using hb
  subst hx;clear hr hb hm;go_enter func206,ntmps206;go_wp2;refine wp_loop_rounds 1 ?_;rw[rounds_succ];go_wp2;go_ret;exact⟨⟨_,rfl,by decide⟩,rfl⟩
 ·obtain⟨b,off,rfl,_,hc⟩:=hr.2 (by omega);have ha:∀ k,k<n->w.cell? ⟨b,off+k,none⟩=some (.bool (xs.getD k false)):=fun k hk=>hc k _ (by simp[List.getD,List.getElem?_eq_getElem (show k<xs.length by omega)]);have HC:=zh ha;have HL:=zh hb;clear hc hr ha hb h0;go_enter func206,ntmps206;go_wp2
  go_loop [8] (fun t=>∃ k:Nat,k<=n/\t=.int .i64 k/\NoTrue xs k) (fun t=>n-(intOf t).toNat)
  case atStart=>exact⟨0,Nat.zero_le _,rfl,fun j hj=>by omega⟩
  case round =>
   obtain⟨k,hk,rfl,hd⟩:=hrel;by_cases hlt:k<n
   ·have ha:=HC.out k hlt;cases hv:xs.getD k false with
    | true =>
      rw[hv] at ha;have hh:=zh (hasTrue_of hv);clear hv;go_wp2;go_ret;exact⟨⟨_,rfl,by rw[hh.out];simp⟩,rfl⟩
    | false =>
      rw[hv] at ha;have hh:=noTrue_step hd hv;clear hv hd;go_wp2;go_round;case rel=>exact⟨k+1,by omega,by go_num,hh⟩
      case measure=>simp[intOf];omega
   ·have hh:=zh (noTrue_end hd (HL.out.trans (by omega)));clear hd;go_wp2;go_ret;exact⟨⟨_,rfl,by rw[hh.out];decide⟩,rfl⟩
theorem contains_bools (A:Option Addr) (n c B:Nat) (xs:List Bool) (w:World) (hr:Reads w B 1 A n (xs.map Value.bool)) (hm:n<=9223372036854775807) :
  Calls prog 146 #[.slice A n c,.bool true] w fun e w'=>e=.returned (.bool (zAU xs))/\w=w':=by
 go_enter func146,ntmps146;go_wp2_with fail;refine(index_bools A n c B xs w hr hm).mono ?_;rintro e w1 ⟨⟨r,rfl,hx⟩,rfl⟩;have HX:=zh hx;clear hx hr hm;go_wp2;go_ret;exact⟨by rw[<- HX.out];rfl,rfl⟩
theorem kps {a w:World} (h:Keeps a w:=by repeat(first|with_reducible exact keeps_refl _|with_reducible assumption|with_reducible refine keeps_alloc ?_ _|with_reducible refine keeps_more ?_ _ _|with_reducible refine keeps_drew ?_|with_reducible refine keeps_drewN ?_ _)):Keeps a w:=h
end Go.Proofs.YtnccknhbplaieaaGreatDoor
namespace Go.Proofs.YtnccknhbplaieaaGreatDoor
open Go Go.RowKit Go.MapKept
def ents:List (ByteArray×Value)->Nat->List MapEntry
 | [],_=>[]
 | p::L,i=>⟨.string p.1,p.2,i⟩::ents L (i+1)
def findU (k:ByteArray):List (ByteArray×Value)->Option (Nat×Value)
 | []=>none
 | p::L=>if p.1=k then some (0,p.2) else (findU k L).map fun q=>(q.1+1,q.2)
def ups (k:ByteArray) (v:Value):List (ByteArray×Value)->List (ByteArray×Value)
 | []=>[(k,v)]
 | p::L=>if p.1=k then (k,v)::L else p::ups k v L
def getU (k:ByteArray) (L:List (ByteArray×Value)):Option Value:=(findU k L).map (·.2)
theorem getU_ups (k k':ByteArray) (v:Value) (L:List (ByteArray×Value)):getU k' (ups k v L)=if k=k' then some v else getU k' L:=by
 induction L with
 | nil=>by_cases h:k=k'<;>simp[getU,ups,findU,h]
 | cons p L ih =>
   unfold ups;by_cases h:p.1=k
   ·rw[if_pos h];by_cases h':k=k'
    ·simp[getU,findU,h']
    ·have:p.1≠k':=fun e=>h' (h.symm.trans e);simp[getU,findU,h',this]
   ·rw[if_neg h];by_cases h':p.1=k'
    ·have:k≠k':=fun e=>h (h'.trans e.symm);simp[getU,findU,h',this]
    ·have e1:∀ M,getU k' (p::M)=getU k' M:=fun M=>by simp[getU,findU,h',Function.comp_def]
     rw[e1,e1,ih]
theorem find_ents (k:ByteArray) (L:List (ByteArray×Value)):∀ b i,Instr.findNow .string (.string k) (ents L b) i=some ((findU k L).map fun q=>(i+q.1,q.2)):=by
 induction L with
 | nil=>exact fun _ _=>rfl
 | cons p L ih =>
   intro b i;by_cases h:p.1=k
   ·have hb:(k==p.1)=true:=by rw[h];exact(bytes_beq k k).2 rfl
    simp[ents,Instr.findNow,Instr.sameNow,findU,h,hb];rw[<- h] at hb ⊢;simp[hb]
   ·have hb:(k==p.1)=false:=by
     cases hc:(k==p.1) with
     | false=>rfl
     | true=>exact absurd ((bytes_beq k p.1).1 hc).symm h
    simp only[ents,Instr.findNow,Instr.sameNow,hb,findU,if_neg h,ih,Option.map_map]
    congr 2
    funext q
    simp only[Function.comp];rw[Nat.add_assoc,Nat.add_comm 1]
theorem ents_ups (k:ByteArray) (v:Value) (L:List (ByteArray×Value)):∀ i,match findU k L with
  | some q=>ents (ups k v L) i=(ents L i).modify q.1 (fun e=> { e with key:=.string k,val:=v })/\(ups k v L).length=L.length/\(ents L i)[q.1]?.map (·.key)=some (.string k)
  | none=>ents (ups k v L) i=ents L i++[⟨.string k,v,i+L.length⟩]/\(ups k v L).length=L.length+1:=by
 induction L with
 | nil=>intro i;simp[findU,ups,ents]
 | cons p L ih =>
   intro i;by_cases h:p.1=k
   ·simp[findU,ups,ents,h,List.modify]
   ·have:=ih (i+1);simp only[findU,if_neg h,ups];cases hf:findU k L with
    | none =>
      rw[hf] at this;simp only[Option.map_none];obtain⟨h1,h2⟩:=this;exact⟨by simp[ents,h1];omega,by simp[h2]⟩
    | some q =>
      rw[hf] at this;simp only[Option.map_some];obtain⟨h1,h2,h3⟩:=this;refine⟨?_,by simp[h2],?_⟩
      ·simp only[ents,h1];rfl
      ·simpa [ents] using h3
def zAE (w:World) (b:Nat) (L:List (ByteArray×Value)):World:= { w with heap:=w.heap.setIfInBounds b (.map (ents L 0).toArray L.length) }
section
variable {w:World} {b n i:Nat} {L:List (ByteArray×Value)} {v:Value}
theorem setMap_at (h:b<w.heap.size):(zAE w b L).heap[b]? =some (.map (ents L 0).toArray L.length):=by simp[zAE,h]
theorem setMap_other (h:b≠n):(zAE w b L).heap[n]? =w.heap[n]? :=by simp[zAE,h]
@[simp,go_sem] theorem setMap_size:(zAE w b L).heap.size=w.heap.size:=by simp[zAE]
@[go_sem] theorem setMap_cell (h:b≠n):(zAE w b L).cell? ⟨n,i,none⟩=w.cell? ⟨n,i,none⟩:=World.cell?_of_block (a:=⟨n,i,none⟩) (setMap_other h)
@[go_sem] theorem setMap_frozen (h:b≠n):(zAE w b L).frozen? ⟨n,i,none⟩=w.frozen? ⟨n,i,none⟩:=World.frozen?_of_block (a:=⟨n,i,none⟩) (setMap_other h)
@[go_sem] theorem setMap_setCell (h:b≠n):(zAE w b L).setCell ⟨n,i,none⟩ v=zAE (w.setCell ⟨n,i,none⟩ v) b L:=by
  unfold zAE World.setCell
  congr 1
  apply Array.ext_getElem?;intro k;simp only[Array.getElem?_modify,Array.getElem?_setIfInBounds,Array.size_modify];by_cases h1:n=k
  ·subst h1;simp[h]
  ·rw[if_neg h1];by_cases h2:b=k
   ·rw[if_pos h2,if_pos h2]
   ·rw[if_neg h2,if_neg h2,if_neg h1]
@[go_sem] theorem setMap_alloc (o:Obj) (h:b<w.heap.size):(zAE w b L).alloc o=zAE (w.alloc o) b L:=by
  unfold zAE World.alloc
  congr 1
  apply Array.ext_getElem?;intro k;simp only[Array.getElem?_push,Array.getElem?_setIfInBounds,Array.size_setIfInBounds,Array.size_push];by_cases h1:k=w.heap.size
  ·subst h1;simp[Nat.ne_of_lt h]
  ·simp only[if_neg h1];by_cases h2:b=k
   ·subst h2;simp[h];omega
   ·simp[h2]
@[go_sem] theorem drew_setMap:zAE w.drew b L=(zAE w b L).drew:=rfl
@[go_sem] theorem setMap_more {l:List Obj} (h:b<w.heap.size):more (zAE w b L) l n=zAE (more w l n) b L:=by
  unfold zAE more
  congr 1
  apply Array.ext_getElem?;intro k;simp only[Array.getElem?_append,Array.getElem?_setIfInBounds,Array.size_setIfInBounds,Array.size_append];by_cases h2:b=k
  ·subst h2;simp[h];omega
  ·by_cases h3:k<w.heap.size<;>simp[h2,h3]
theorem zBk {B:Nat} {a:World} (h:Below B a w) (hB:B<=b):Below B a (zAE w b L) :=
 h.trans ⟨rfl,rfl,rfl,by simp,fun k hk=>setMap_other (by omega)⟩
variable {P:Program} {k e t:TypeId}
theorem run_makeMapS (w:World) (t:TypeId):(Instr.makeMap t none).run P w=.ok (.map (some w.heap.size)) (zAE (w.alloc (.map #[] 0)) w.heap.size []):=by
 have e:zAE (w.alloc (.map #[] 0)) w.heap.size []=w.alloc (.map #[] 0):=by
  unfold zAE World.alloc
  congr 1
  apply Array.ext_getElem?;intro k;simp only[Array.getElem?_push,Array.getElem?_setIfInBounds,Array.size_push];by_cases h:w.heap.size=k
  ·subst h;simp[ents]
  ·simp[h,Ne.symm h]
 rw[e];exact run_makeMap t w
theorem run_storeS (hk:P.underlying k=some .string) (ht:P.underlying t=some (.map k e)) (w:World) (h:b<w.heap.size) (s:ByteArray) (v:Value) (L:List (ByteArray×Value)) :
  (Instr.mapUpdate t (.map (some b)) (.string s) v).run P (zAE w b L)=.ok () (zAE w b (ups s v L)):=by
 have hb:=setMap_at (L:=L) h;have hf:=find_ents s L 0 0;have he:=ents_ups s v L 0;have hc:IsKey .string (.string s):=by simp[IsKey]
 have ha:∀ o:Obj,(setObj b o).run P (zAE w b L)=.ok () { w with heap:=w.heap.setIfInBounds b o } :=by
  intro o;rw[MapKept.run_setObj_map _ hb];unfold zAE;simp
 cases hq:findU s L with
 | none =>
   rw[hq] at hf he;simp only[Option.map_none] at hf he;simp[Instr.mapUpdate,run_underlying ht,MapKept.run_getObj_map hb,run_checkKey hk hc,run_findKey hk hf,ha,Result.andThen];unfold zAE;rw[he.1,he.2];simp
 | some q =>
   rw[hq] at hf he;simp only[Option.map_some,Nat.zero_add] at hf he;obtain⟨h1,h2,h3⟩:=he;have hd:(((ents L 0).toArray[q.1]?).map (·.key)).getD (.string s)=.string s:=by
    rw[List.getElem?_toArray,h3];rfl
   simp only[Instr.mapUpdate,Sem.run_bind,run_underlying ht,Result.andThen,MapKept.run_getObj_map hb,run_checkKey hk hc,List.toList_toArray];rw[run_findKey hk hf];simp only[hd,run_keyThatStays hc,ha,Sem.run_bind,Result.andThen];unfold zAE;rw[h1,h2];simp
theorem run_lookS (hk:P.underlying k=some .string) (ht:P.underlying t=some (.map k e)) (z:Value) (hz:∀ w:World,(zeroValue e).run P w=.ok z w) (w:World) (h:b<w.heap.size) (s:ByteArray) (L:List (ByteArray×Value)) :
  (Instr.lookup t (.map (some b)) (.string s) true).run P (zAE w b L)=.ok (.tuple #[(getU s L).getD z,.bool (getU s L).isSome]) (zAE w b L):=by
 have hb:=setMap_at (L:=L) h;have hf:=find_ents s L 0 0;have ha:IsKey .string (.string s):=by simp[IsKey]
 unfold getU;cases hq:findU s L with
 | none =>
   rw[hq] at hf;simp only[Option.map_none] at hf;simp[Instr.lookup,run_underlying ht,MapKept.run_getObj_map hb,run_checkKey hk ha,run_findKey hk hf,hz,Result.andThen]
 | some q =>
   rw[hq] at hf;simp only[Option.map_some] at hf;simp[Instr.lookup,run_underlying ht,MapKept.run_getObj_map hb,run_checkKey hk ha,run_findKey hk hf,Result.andThen]
end
theorem bind_ups {α:Type} (g:Value->Option α) (k s:ByteArray) (v:Value) (L:List (ByteArray×Value)):(getU s (ups k v L)).bind g=if k=s then g v else (getU s L).bind g:=by
 rw[getU_ups];by_cases h:k=s<;>simp[h]
theorem bind_nil {α:Type} (g:Value->Option α) (s:ByteArray):(getU s []).bind g=none:=rfl
def AllV (Q:Value->Prop) (L:List (ByteArray×Value)):Prop:=∀ s v,getU s L=some v->Q v
theorem AllV.nil (Q:Value->Prop):AllV Q []:=fun s v h=>by cases h
theorem AllV.ups {Q:Value->Prop} {k:ByteArray} {u:Value} {L:List (ByteArray×Value)} (h:AllV Q L) (hu:Q u):AllV Q (ups k u L):=fun s v hv=>by
 rw[getU_ups] at hv;by_cases e:k=s
 ·rw[if_pos e] at hv;cases hv;exact hu
 ·rw[if_neg e] at hv;exact h s v hv
def FunN (v:Value):Prop:=∃ (x y:Int) (fn:Fn) (first cap:Array Value),v=.agg #[.int .i64 x,.int .i64 y,.func fn first cap]
def FunT (v:Value):Prop:=∃ (x:ByteArray) (y:Int) (fn:Fn) (first cap:Array Value),v=.agg #[.string x,.int .i64 y,.func fn first cap]
def FunA (v:Value):Prop:=∃ (x:ByteArray) (y z:Int) (fn:Fn) (first cap:Array Value),v=.agg #[.string x,.int .i64 y,.int .i64 z,.func fn first cap]
theorem funN (x y:Int) (fn:Fn) (first cap:Array Value):FunN (.agg #[.int .i64 x,.int .i64 y,.func fn first cap]):=⟨x,y,fn,first,cap,rfl⟩
theorem funT (x:ByteArray) (y:Int) (fn:Fn) (first cap:Array Value):FunT (.agg #[.string x,.int .i64 y,.func fn first cap]):=⟨x,y,fn,first,cap,rfl⟩
theorem funA (x:ByteArray) (y z:Int) (fn:Fn) (first cap:Array Value):FunA (.agg #[.string x,.int .i64 y,.int .i64 z,.func fn first cap]):=⟨x,y,z,fn,first,cap,rfl⟩
section
variable {P:Program} {ops:Array Oper} {rest:List Oper} {o:Oper} {a:Act} {Q:Exit->Act->World->Prop}
theorem wpList_look0 (hg:o.guard=none) (t:TypeId) (m x:Operand) (hop:o.op=Op.lookup t m x true) (k e:TypeId) (hk:P.underlying k=some .string) (ht:P.underlying t=some (.map k e)) (z:Value) (hz:∀ w:World,(zeroValue e).run P w=.ok z w)
  (w:World) (b:Nat) (L:List (ByteArray×Value)) (hm:a.eval m=.map (some b)) (hb:b<w.heap.size) (s:ByteArray) (hx:a.eval x=.string s)
  (hY:∀ v,getU s L=some v->wpList P ops Q rest (a.put o.dst (.tuple #[v,.bool true])) (zAE w b L)) (hN:getU s L=none->wpList P ops Q rest (a.put o.dst (.tuple #[z,.bool false])) (zAE w b L)):wpList P ops Q (o::rest) a (zAE w b L):=by
 refine wpList_plain hg fun K' hK'=> ?_;unfold Oper.wp;simp[execOp,hop,hm,hx,run_lookS hk ht z hz w hb s L,Result.andThen];cases h:getU s L with
 | none=>exact hK' _ _ (hN h)
 | some v=>exact hK' _ _ (hY v h)
theorem wpList_lookN (hg:o.guard=none) (t:TypeId) (m x:Operand) (hop:o.op=Op.lookup t m x true) (k e:TypeId) (hk:P.underlying k=some .string) (ht:P.underlying t=some (.map k e)) (z:Value) (hz:∀ w:World,(zeroValue e).run P w=.ok z w)
  (w:World) (b:Nat) (L:List (ByteArray×Value)) (hm:a.eval m=.map (some b)) (hb:b<w.heap.size) (s:ByteArray) (hx:a.eval x=.string s) (hA:AllV FunN L)
  (hY:∀ (c y:Int) (fn:Fn) (first cap:Array Value),RowKit.Hid (getU s L=some (.agg #[.int .i64 c,.int .i64 y,.func fn first cap]))->wpList P ops Q rest (a.put o.dst (.tuple #[.agg #[.int .i64 c,.int .i64 y,.func fn first cap],.bool true])) (zAE w b L)) (hN:RowKit.Hid (getU s L=none)->wpList P ops Q rest (a.put o.dst (.tuple #[z,.bool false])) (zAE w b L)):wpList P ops Q (o::rest) a (zAE w b L) :=
 wpList_look0 hg t m x hop k e hk ht z hz w b L hm hb s hx (fun v hv=>by
  obtain⟨c,y,fn,first,cap,rfl⟩:=hA s v hv;exact hY c y fn first cap hv) hN
theorem wpList_lookT (hg:o.guard=none) (t:TypeId) (m x:Operand) (hop:o.op=Op.lookup t m x true) (k e:TypeId) (hk:P.underlying k=some .string) (ht:P.underlying t=some (.map k e)) (z:Value) (hz:∀ w:World,(zeroValue e).run P w=.ok z w)
  (w:World) (b:Nat) (L:List (ByteArray×Value)) (hm:a.eval m=.map (some b)) (hb:b<w.heap.size) (s:ByteArray) (hx:a.eval x=.string s) (hA:AllV FunT L)
  (hY:∀ (c:ByteArray) (y:Int) (fn:Fn) (first cap:Array Value),RowKit.Hid (getU s L=some (.agg #[.string c,.int .i64 y,.func fn first cap]))->wpList P ops Q rest (a.put o.dst (.tuple #[.agg #[.string c,.int .i64 y,.func fn first cap],.bool true])) (zAE w b L)) (hN:RowKit.Hid (getU s L=none)->wpList P ops Q rest (a.put o.dst (.tuple #[z,.bool false])) (zAE w b L)):wpList P ops Q (o::rest) a (zAE w b L) :=
 wpList_look0 hg t m x hop k e hk ht z hz w b L hm hb s hx (fun v hv=>by
  obtain⟨c,y,fn,first,cap,rfl⟩:=hA s v hv;exact hY c y fn first cap hv) hN
theorem wpList_lookA (hg:o.guard=none) (t:TypeId) (m x:Operand) (hop:o.op=Op.lookup t m x true) (k e:TypeId) (hk:P.underlying k=some .string) (ht:P.underlying t=some (.map k e)) (z:Value) (hz:∀ w:World,(zeroValue e).run P w=.ok z w)
  (w:World) (b:Nat) (L:List (ByteArray×Value)) (hm:a.eval m=.map (some b)) (hb:b<w.heap.size) (s:ByteArray) (hx:a.eval x=.string s) (hA:AllV FunA L)
  (hY:∀ (c:ByteArray) (y y1:Int) (fn:Fn) (first cap:Array Value),RowKit.Hid (getU s L=some (.agg #[.string c,.int .i64 y,.int .i64 y1,.func fn first cap]))->wpList P ops Q rest (a.put o.dst (.tuple #[.agg #[.string c,.int .i64 y,.int .i64 y1,.func fn first cap],.bool true])) (zAE w b L)) (hN:RowKit.Hid (getU s L=none)->wpList P ops Q rest (a.put o.dst (.tuple #[z,.bool false])) (zAE w b L)):wpList P ops Q (o::rest) a (zAE w b L) :=
 wpList_look0 hg t m x hop k e hk ht z hz w b L hm hb s hx (fun v hv=>by
  obtain⟨c,y,y1,fn,first,cap,rfl⟩:=hA s v hv;exact hY c y y1 fn first cap hv) hN
end
end Go.Proofs.YtnccknhbplaieaaGreatDoor
namespace Go.Proofs.YtnccknhbplaieaaGreatDoor
open Go Go.RowKit Go.Proofs.Tryz
@[go_sem] theorem ga1 {a n:Nat} :(a<a+1+n)=True:=by simp;omega
@[go_sem] theorem ga2 {a n:Nat} :(a<a+1+n+1)=True:=by simp;omega
@[go_sem] theorem ga3 {a n:Nat} :(a<=a+1+n)=True:=by simp;omega
@[go_sem] theorem ga4 {a n:Nat} :(a=a+1+n)=False:=by simp;omega
@[go_sem] theorem ga5 {a n m:Nat} :(a<a+1+n+1+m)=True:=by simp;omega
structure MoreBy where
 l:List Obj
 n:Nat
instance:Inhabited MoreBy:=⟨⟨[],0⟩⟩
theorem wp_region_quiet_more {P:Program} {id:Nat} {Q:Exit->Act->World->Prop} {a:Act} {w:World} {l:List Oper} (hm:P.follows .mixedOrders=true) (hB:Region.lexB .any l.toArray=true)
  (h:wpQuiet P l.toArray (fun w'=>∃ p:MoreBy,w'=more w p.l p.n) (fun a'=>∀ w',(∃ p:MoreBy,w'=more w p.l p.n)->Q .normal a' w') l a):(Code.region id l.toArray true).wp P Q a w :=
 wp_region_quiet (C:=fun w'=>∃ p:MoreBy,w'=more w p.l p.n) hm hB ⟨⟨[],w.drawn+1⟩,by simp[more]⟩ (by simpa using h)
theorem Calls.zA1 {P:Program} {f:FuncId} {args:Array Value} {w:World} {l:List Obj} {n:Nat} {v:Value}
  (h:Calls P f args (more w l n) fun e w'=>e=.returned v/\Below (more w l n).heap.size (more w l n) w'):Calls P f args (more w l n) fun e w''=>e=.returned v/\∃ p:MoreBy,w''=more w p.l p.n :=
 h.mono fun _ _ ⟨he,hb⟩=>by
   obtain⟨l2,n2,rfl⟩:=zA0 hb;exact⟨he,⟨l++l2,n2⟩,by rw[zAQ]⟩
theorem qmI {P:Program} {id:Nat} {Q:Exit->Act->World->Prop} {a:Act} {w:World} {l:List Oper}
  (h:wpQuiet P l.toArray (fun w'=>∃ p:MoreBy,w'=more w p.l p.n) (fun a'=>∀ w',(∃ p:MoreBy,w'=more w p.l p.n)->Q .normal a' w') l a) (hm:P.follows .mixedOrders=true:=by kernel_rfl) (hB:Region.lexB .any l.toArray=true:=by kernel_rfl):(Code.region id l.toArray true).wp P Q a w :=
 wp_region_quiet_more hm hB h
theorem qmE {P:Program} {ops:Array Oper} {C:World->Prop} {Q:Exit->Act->World->Prop} {a:Act} {w:World} (k:∀ lq nq,Q .normal a (more w lq nq)) :
  wpQuiet P ops C (fun a'=>∀ w',(∃ p:MoreBy,w'=more w p.l p.n)->Q .normal a' w') [] a :=
 wpQuiet_nil (by
  intro w' hw;obtain⟨⟨lq,nq⟩,hw2⟩:=hw;subst hw2;exact k lq nq)
def digsF:Nat->Nat->List Nat
 | 0,_=>[]
 | f+1,n=>if n=0 then [] else n % 10000::digsF f (n / 10000)
def digs (n:Nat):List Nat:=digsF n n
theorem digsF_more:∀ (f g n:Nat),n<=f->n<=g->digsF f n=digsF g n
 | 0,g,n,h1,h2=>by
   obtain rfl:n=0:=by omega
   cases g<;>simp[digsF]
 | f+1,0,n,h1,h2=>by
   obtain rfl:n=0:=by omega
   simp[digsF]
 | f+1,g+1,n,h1,h2=>by
   unfold digsF;by_cases h:n=0
   ·rw[if_pos h,if_pos h]
   ·rw[if_neg h,if_neg h,digsF_more f g (n / 10000) (by omega) (by omega)]
theorem digs_zero:digs 0=[]:=rfl
theorem digs_pos {n:Nat} (h:n≠0):digs n=n % 10000::digs (n / 10000):=by
 obtain⟨m,rfl⟩:∃ m,n=m+1:=⟨n-1,by omega⟩
 unfold digs;rw[digsF,if_neg h,digsF_more m ((m+1) / 10000) _ (by omega) (Nat.le_refl _)]
def valL:List Nat->Nat
 | []=>0
 | a::l=>a+10000*valL l
def cutL:List Nat->List Nat
 | []=>[]
 | a::l=>if a=0/\cutL l=[] then [] else a::cutL l
def Low (l:List Nat):Prop:=∀ a∈l,a<10000
theorem Low.tail {a:Nat} {l:List Nat} (h:Low (a::l)):Low l:=fun x hx=>h x (List.mem_cons_of_mem _ hx)
theorem Low.head {a:Nat} {l:List Nat} (h:Low (a::l)):a<10000:=h a List.mem_cons_self
theorem digs_nil {n:Nat} (h:digs n=[]):n=0:=by
 by_cases h0:n=0
 ·exact h0
 ·rw[digs_pos h0] at h;cases h
theorem cut_digs:∀ (l:List Nat),Low l->cutL l=digs (valL l)
 | [],_=>rfl
 | a::l,h=>by
   have ih:=cut_digs l h.tail;have ha:=h.head;unfold cutL valL;by_cases hz:a=0/\cutL l=[]
   ·rw[if_pos hz];rw[ih] at hz;rw[hz.1,digs_nil hz.2]
    rfl
   ·rw[if_neg hz];have hn:a+10000*valL l≠0:=fun e=>hz ⟨by omega,by rw[ih,show valL l=0 by omega];rfl⟩;rw[digs_pos hn,ih,show (a+10000*valL l) % 10000=a by omega,show (a+10000*valL l) / 10000=valL l by omega]
theorem low_digsF:∀ (f n:Nat),Low (digsF f n)
 | 0,n=>fun a ha=>by cases ha
 | f+1,n=>by
   unfold digsF;split
   ·exact fun a ha=>by cases ha
   ·intro a ha;rcases List.mem_cons.1 ha with rfl|h
    ·exact Nat.mod_lt _ (by decide)
    ·exact low_digsF f _ a h
theorem zAs (n:Nat):Low (digs n):=low_digsF n n
theorem val_digsF:∀ (f n:Nat),n<=f->valL (digsF f n)=n
 | 0,n,h=>by
   obtain rfl:n=0:=by omega
   rfl
 | f+1,n,h=>by
   unfold digsF;split
   ·rename_i h0;rw[h0]
    rfl
   ·unfold valL;rw[val_digsF f (n / 10000) (by omega)];omega
theorem zAl (n:Nat):valL (digs n)=n:=val_digsF n n (Nat.le_refl _)
theorem cutL_take:∀ l:List Nat,cutL l=l.take (cutL l).length
 | []=>rfl
 | a::l=>by
   unfold cutL;split
   ·rfl
   ·rw[List.length_cons,List.take_succ_cons,<-cutL_take l]
theorem valL_append:∀ (a b:List Nat),valL (a++b)=valL a+10000 ^ a.length*valL b
 | [],b=>by simp[valL]
 | x::a,b=>by
   rw[List.cons_append,valL,valL,valL_append a b,List.length_cons,Nat.pow_succ,Nat.mul_add,Nat.add_assoc]
   congr 2
   rw[<- Nat.mul_assoc,Nat.mul_comm 10000]
theorem val_lt:∀ (l:List Nat),Low l->valL l<10000 ^ l.length
 | [],_=>by simp[valL]
 | a::l,h=>by
   have:=val_lt l h.tail;have ha:=h.head;rw[valL,List.length_cons,Nat.pow_succ];omega
theorem val_zeros (n:Nat):valL (List.replicate n 0)=0:=by
 induction n with
 | zero=>rfl
 | succ n ih=>rw[List.replicate_succ,valL,ih]
theorem val_snoc (a:List Nat) (x:Nat):valL (a++[x])=valL a+10000 ^ a.length*x:=by
 rw[valL_append];simp[valL]
theorem val_set:∀ (l:List Nat) (j x:Nat),j<l.length->valL (l.set j x)+10000 ^ j*l.getD j 0=valL l+10000 ^ j*x
 | [],j,x,h=>absurd h (Nat.not_lt_zero j)
 | a::l,0,x,_=>by
   simp only[List.set_cons_zero,valL,Nat.pow_zero,Nat.one_mul,List.getD_cons_zero];omega
 | a::l,j+1,x,h=>by
   have ih:=val_set l j x (by simpa using h);simp only[List.set_cons_succ,valL,List.getD_cons_succ];rw[Nat.pow_succ,Nat.mul_comm (10000 ^ j) 10000,Nat.mul_assoc,Nat.mul_assoc];omega
theorem low_set {l:List Nat} {j x:Nat} (h:Low l) (hx:x<10000):Low (l.set j x):=fun a ha=>by
 rcases List.mem_or_eq_of_mem_set ha with h1|rfl
 ·exact h a h1
 ·exact hx
theorem val_take (l:List Nat) (k:Nat) (h:k<l.length):valL (l.take (k+1))=valL (l.take k)+10000 ^ k*l.getD k 0:=by
 have e:l.take (k+1)=l.take k++[l.getD k 0]:=by
  rw[List.getD,List.getElem?_eq_getElem h,List.take_succ_eq_append_getElem h]
  rfl
 rw[e,val_snoc,List.length_take,Nat.min_eq_left (Nat.le_of_lt h)]
theorem digs_drop (n k:Nat):(digs n).drop k=digs (n / 10000 ^ k):=by
 induction k generalizing n with
 | zero=>simp
 | succ k ih =>
   by_cases h:n=0
   ·subst h;rw[digs_zero,List.drop_nil,Nat.zero_div]
    rfl
   ·rw[digs_pos h,List.drop_succ_cons,ih,Nat.div_div_eq_div_mul,Nat.pow_succ,Nat.mul_comm]
theorem digs_getD (n k:Nat):(digs n).getD k 0=n / 10000 ^ k % 10000:=by
 induction k generalizing n with
 | zero =>
   by_cases h:n=0
   ·subst h;rfl
   ·rw[digs_pos h];simp
 | succ k ih =>
   by_cases h:n=0
   ·subst h;rw[digs_zero,Nat.zero_div]
    rfl
   ·rw[digs_pos h,List.getD_cons_succ,ih,Nat.div_div_eq_div_mul,Nat.pow_succ,Nat.mul_comm]
theorem low_get {l:List Nat} (h:Low l) (j:Nat):l.getD j 0<10000:=by
 rw[List.getD];cases e:l[j]? with
 | none=>simp
 | some x=>exact h x (List.mem_of_getElem? e)
def PInv (A B:List Nat) (i k:Nat) (L:List Nat) (o:Nat):Prop :=
 L.length=A.length+B.length/\Low L/\o<10000 /\
 o*10000 ^ (i+k)+valL L=valL (A.take i)*valL B+10000 ^ i*(A.getD i 0*valL (B.take k)) /\
 ∀ j,i+B.length<=j->L.getD j 0=0
theorem pinv_start (A B:List Nat):PInv A B 0 0 (List.replicate (A.length+B.length) 0) 0:=by
 refine⟨by simp,fun a ha=> ?_,by decide,by simp[val_zeros,valL],fun j _=> ?_⟩
 ·rw[List.eq_of_mem_replicate ha];decide
 ·rw[List.getD,List.getElem?_replicate];split<;>rfl
theorem pinv_step {A B L:List Nat} {i k o:Nat} (h:PInv A B i k L o) (hi:i<A.length) (hk:k<B.length) (hA:Low A) (hB:Low B) :
  PInv A B i (k+1) (L.set (i+k) ((o+L.getD (i+k) 0+A.getD i 0*B.getD k 0) % 10000)) ((o+L.getD (i+k) 0+A.getD i 0*B.getD k 0) / 10000):=by
 obtain⟨h1,h2,h3,h4,h5⟩:=h;have b1:=low_get h2 (i+k);have b2:=low_get hA i;have b3:=low_get hB k;have e1:=val_take B k hk;have b4:A.getD i 0*B.getD k 0<=9999*9999:=Nat.mul_le_mul (by omega) (by omega);have e2:=val_set L (i+k) ((o+L.getD (i+k) 0+A.getD i 0*B.getD k 0) % 10000) (by omega);refine⟨by simpa using h1,low_set h2 (Nat.mod_lt _ (by decide)),by omega,?_,fun j hj=> ?_⟩
 ·rw[e1];have e3:(10000:Nat) ^ (i+k)=10000 ^ i*10000 ^ k:=Nat.pow_add _ _ _;have e4:(10000:Nat) ^ (i+(k+1))=10000*10000 ^ (i+k):=by rw[show i+(k+1)=(i+k)+1 by omega,Nat.pow_succ,Nat.mul_comm]
  have e5:10000 ^ i*(A.getD i 0*(valL (B.take k)+10000 ^ k*B.getD k 0))=10000 ^ i*(A.getD i 0*valL (B.take k))+10000 ^ (i+k)*(A.getD i 0*B.getD k 0):=by
   rw[e3,Nat.mul_add,Nat.mul_add,Nat.mul_assoc (10000 ^ i) (10000 ^ k),<-Nat.mul_assoc (10000 ^ k),Nat.mul_comm (10000 ^ k) (A.getD i 0),Nat.mul_assoc (A.getD i 0),<-Nat.mul_assoc (A.getD i 0) (10000 ^ k)]
  rw[e5,e4,<-Nat.add_assoc];generalize A.getD i 0*B.getD k 0=p at *;generalize L.getD (i+k) 0=x at *;generalize (10000:Nat) ^ (i+k)=P at *;generalize valL (A.take i)*valL B+10000 ^ i*(A.getD i 0*valL (B.take k))=V at *;have d:=Nat.div_add_mod (o+x+p) 10000;generalize (o+x+p) / 10000=q at *;generalize (o+x+p) % 10000=r at *;have f1:P*(10000*q+r)=P*(o+x+p):=by rw[d]
  rw[Nat.mul_add,Nat.mul_add,Nat.mul_add] at f1;have f2:P*(10000*q)=q*(10000*P):=by rw[Nat.mul_comm,Nat.mul_assoc,Nat.mul_left_comm]
  have f3:o*P=P*o:=Nat.mul_comm _ _;omega
 ·rw[List.getD,List.getElem?_set_ne (by omega)];exact h5 j hj
theorem pinv_next {A B L:List Nat} {i o:Nat} (h:PInv A B i B.length L o) (hi:i<A.length):PInv A B (i+1) 0 (L.set (i+B.length) o) 0:=by
 obtain⟨h1,h2,h3,h4,h5⟩:=h;have e2:=val_set L (i+B.length) o (by omega);rw[h5 _ (Nat.le_refl _)] at e2;have e1:=val_take A i hi;refine⟨by simpa using h1,low_set h2 h3,by decide,?_,fun j hj=> ?_⟩
 ·rw[List.take_length,Nat.mul_comm o] at h4;rw[e1,Nat.add_mul,Nat.mul_assoc (10000 ^ i),List.take_zero,show valL []=0 from rfl,Nat.mul_zero,Nat.mul_zero,Nat.zero_mul];rw[Nat.mul_zero] at e2;omega
 ·rw[List.getD,List.getElem?_set_ne (by omega)];exact h5 j (by omega)
theorem pinv_end {A B L:List Nat} (h:PInv A B A.length 0 L 0):cutL L=digs (valL A*valL B):=by
 obtain⟨h1,h2,h3,h4,h5⟩:=h;rw[cut_digs L h2]
 congr 1
 rw[List.take_length] at h4
 simpa [valL] using h4
theorem idx_string (c:ByteArray) (m:Int) (h0:0<=m) (h1:m.toNat<c.size) (w:World):(Instr.index 9 (.string c) (.int .i64 m)).run prog w=.ok (.int .u8 (c.data.toList.getD m.toNat 0).toNat) w:=by
 have e:c[m.toNat]? =some (c.data.toList.getD m.toNat 0):=by
  have hs:m.toNat<c.data.toList.length:=by simpa using h1
  rw[List.getD,List.getElem?_eq_getElem hs];simp[h1]
  rfl
 simp[Instr.index,asIntOf,run_underlying underlying9,Result.andThen,h0,e]
theorem i64_and32 (n:Int):bits BinOp.and IntKind.i64 n 4294967295=n % 4294967296:=by
 have ha:(BitVec.ofInt 64 4294967295).toNat=2 ^ 32-1:=by decide
 have key:(BitVec.ofInt 64 n &&& BitVec.ofInt 64 4294967295).toNat=(n % ((2 ^ 64:Nat):Int)).toNat % 2 ^ 32:=by
  rw[BitVec.toNat_and,BitVec.toNat_ofInt,ha,Nat.and_two_pow_sub_one_eq_mod]
 show IntKind.i64.wrap ((BitVec.ofInt 64 n &&& BitVec.ofInt 64 4294967295).toNat:Nat)=n % 4294967296;rw[key,IntKind.wrap_i64];omega
theorem i64_or32 (H L:Int) (h1: -2147483648<=H) (h2:H<2147483648) (h3:0<=L) (h4:L<4294967296):bits BinOp.or IntKind.i64 (H*4294967296) L=H*4294967296+L:=by
 obtain⟨l,rfl⟩:=Int.eq_ofNat_of_zero_le h3;obtain⟨h,hh⟩:∃ h:Nat,(h:Int)=H % 4294967296:=⟨(H % 4294967296).toNat,by omega⟩
 have e1:(H*4294967296 % ((2 ^ 64:Nat):Int)).toNat=2 ^ 32*h:=by
  omega
 have e2:((l:Int) % ((2 ^ 64:Nat):Int)).toNat=l:=by omega
 have hl:l<2 ^ 32:=by omega
 have key:(BitVec.ofInt 64 (H*4294967296) ||| BitVec.ofInt 64 (l:Int)).toNat=2 ^ 32*h+l:=by
  rw[BitVec.toNat_or,BitVec.toNat_ofInt,BitVec.toNat_ofInt,e1,e2,Nat.two_pow_add_eq_or_of_lt hl]
 show IntKind.i64.wrap ((BitVec.ofInt 64 (H*4294967296) ||| BitVec.ofInt 64 (l:Int)).toNat:Nat)=_;rw[key,IntKind.wrap_i64];omega
end Go.Proofs.YtnccknhbplaieaaGreatDoor
