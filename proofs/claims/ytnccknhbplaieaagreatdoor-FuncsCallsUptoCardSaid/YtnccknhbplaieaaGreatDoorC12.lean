/- Parts. -/
import Derived.Test.YtnccknhbplaieaaGreatDoorC02
import Derived.Laws.EntriesVeiled
set_option linter.all false
set_option maxRecDepth 100000
set_option maxHeartbeats 4000000
namespace Go.Proofs.YtnccknhbplaieaaGreatDoor
open Go Go.RowKit Go.Proofs.Tryz
def projA:Value->Option (ByteArray×Int×Int)
 | .agg ⟨[.string s,.int _ a,.int _ b,_]⟩=>some (s,a,b)
 | _=>none
def projAF:Value->Option Value
 | .agg ⟨[_,_,_,f]⟩=>some f
 | _=>none
def zAV (s:ByteArray):Option (ByteArray×Int×Int) :=
 if (⟨#[67,79,76,83]⟩:ByteArray)=s then some (⟨#[114]⟩,1,1) else
 if (⟨#[82,79,87,83]⟩:ByteArray)=s then some (⟨#[114]⟩,1,1) else
 if (⟨#[74,79,73,78]⟩:ByteArray)=s then some (⟨#[118,120]⟩,2,16) else
 if (⟨#[76,65,82,71,69]⟩:ByteArray)=s then some (⟨#[114,118]⟩,2,2) else
 if (⟨#[73,78,68,69,88]⟩:ByteArray)=s then some (⟨#[114,118,118]⟩,3,3) else
 if (⟨#[76,79,79,75,85,80]⟩:ByteArray)=s then some (⟨#[118,114,114]⟩,3,3) else
 if (⟨#[77,65,84,67,72]⟩:ByteArray)=s then some (⟨#[118,114]⟩,2,2) else
 if (⟨#[83,85,77,73,70]⟩:ByteArray)=s then some (⟨#[114,118,114]⟩,3,3) else
 if (⟨#[67,79,85,78,84,73,70]⟩:ByteArray)=s then some (⟨#[114,118]⟩,2,2) else
 if (⟨#[66,76,65,78,75,83]⟩:ByteArray)=s then some (⟨#[114]⟩,1,1) else
 if (⟨#[67,79,85,78,84,65]⟩:ByteArray)=s then some (⟨#[120]⟩,1,16) else
 if (⟨#[67,79,85,78,84]⟩:ByteArray)=s then some (⟨#[120]⟩,1,16) else
 if (⟨#[77,69,68,73,65,78]⟩:ByteArray)=s then some (⟨#[120]⟩,1,16) else
 if (⟨#[65,86,71]⟩:ByteArray)=s then some (⟨#[120]⟩,1,16) else
 if (⟨#[77,65,88]⟩:ByteArray)=s then some (⟨#[120]⟩,1,16) else
 if (⟨#[77,73,78]⟩:ByteArray)=s then some (⟨#[120]⟩,1,16) else
 if (⟨#[80,82,79,68]⟩:ByteArray)=s then some (⟨#[120]⟩,1,16) else
 if (⟨#[83,85,77]⟩:ByteArray)=s then some (⟨#[120]⟩,1,16) else none
def aggFn (p:Nat) (s:ByteArray):Option Value :=
 if (⟨#[67,79,76,83]⟩:ByteArray)=s then some (.func (.func 253) #[] #[]) else
 if (⟨#[82,79,87,83]⟩:ByteArray)=s then some (.func (.func 250) #[] #[]) else
 if (⟨#[74,79,73,78]⟩:ByteArray)=s then some (.func (.func 249) #[] #[]) else
 if (⟨#[76,65,82,71,69]⟩:ByteArray)=s then some (.func (.func 248) #[] #[]) else
 if (⟨#[73,78,68,69,88]⟩:ByteArray)=s then some (.func (.func 247) #[] #[]) else
 if (⟨#[76,79,79,75,85,80]⟩:ByteArray)=s then some (.func (.func 246) #[] #[]) else
 if (⟨#[77,65,84,67,72]⟩:ByteArray)=s then some (.func (.func 246) #[] #[]) else
 if (⟨#[83,85,77,73,70]⟩:ByteArray)=s then some (.func (.func 245) #[] #[]) else
 if (⟨#[67,79,85,78,84,73,70]⟩:ByteArray)=s then some (.func (.func 244) #[] #[]) else
 if (⟨#[66,76,65,78,75,83]⟩:ByteArray)=s then some (.func (.func 242) #[] #[]) else
 if (⟨#[67,79,85,78,84,65]⟩:ByteArray)=s then some (.func (.func 307) #[] #[.pointer (some ⟨p+12,0,none⟩)]) else
 if (⟨#[67,79,85,78,84]⟩:ByteArray)=s then some (.func (.func 307) #[] #[.pointer (some ⟨p+11,0,none⟩)]) else
 if (⟨#[77,69,68,73,65,78]⟩:ByteArray)=s then some (.func (.func 297) #[] #[.pointer (some ⟨p+10,0,none⟩)]) else
 if (⟨#[65,86,71]⟩:ByteArray)=s then some (.func (.func 297) #[] #[.pointer (some ⟨p+8,0,none⟩)]) else
 if (⟨#[77,65,88]⟩:ByteArray)=s then some (.func (.func 297) #[] #[.pointer (some ⟨p+6,0,none⟩)]) else
 if (⟨#[77,73,78]⟩:ByteArray)=s then some (.func (.func 297) #[] #[.pointer (some ⟨p+4,0,none⟩)]) else
 if (⟨#[80,82,79,68]⟩:ByteArray)=s then some (.func (.func 297) #[] #[.pointer (some ⟨p+2,0,none⟩)]) else
 if (⟨#[83,85,77]⟩:ByteArray)=s then some (.func (.func 297) #[] #[.pointer (some ⟨p+1,0,none⟩)]) else none
def AggCells (p:Nat) (w':World):Prop:=w'.cell? ⟨p+1,0,none⟩=some (.func (.func 230) #[] #[]) /\
 w'.cell? ⟨p+2,0,none⟩=some (.func (.func 233) #[] #[]) /\
 w'.cell? ⟨p+3,0,none⟩=some (.func (.func 235) #[] #[]) /\
 w'.cell? ⟨p+4,0,none⟩=some (.func (.func 302) #[] #[.pointer (some ⟨p+3,0,none⟩)]) /\
 w'.cell? ⟨p+5,0,none⟩=some (.func (.func 236) #[] #[]) /\
 w'.cell? ⟨p+6,0,none⟩=some (.func (.func 302) #[] #[.pointer (some ⟨p+5,0,none⟩)]) /\
 w'.cell? ⟨p+7,0,none⟩=some (.func (.func 237) #[] #[]) /\
 w'.cell? ⟨p+8,0,none⟩=some (.func (.func 302) #[] #[.pointer (some ⟨p+7,0,none⟩)]) /\
 w'.cell? ⟨p+9,0,none⟩=some (.func (.func 238) #[] #[]) /\
 w'.cell? ⟨p+10,0,none⟩=some (.func (.func 302) #[] #[.pointer (some ⟨p+9,0,none⟩)]) /\
 w'.cell? ⟨p+11,0,none⟩=some (.func (.func 240) #[] #[]) /\
 w'.cell? ⟨p+12,0,none⟩=some (.func (.func 241) #[] #[])
def AggFound (s:ByteArray) (c:ByteArray) (x y:Int) (e:Ending) (w':World):Prop:=∃ fn first cap,e=.returned (.tuple #[.agg #[.string c,.int .i64 x,.int .i64 y,.func fn first cap],.bool true]) /\
 ∃ p,aggFn p s=some (.func fn first cap)/\AggCells p w'
def AggMissed (e:Ending):Prop:=e=.returned (.tuple #[.agg #[.string ⟨#[]⟩,.int .i64 0,.int .i64 0,.nilFunc],.bool false])
def AggPost (s:ByteArray) (e:Ending) (w':World):Prop:=(∃ c x y,zAV s=some (c,x,y)/\AggFound s c x y e w')∨(zAV s=none/\AggMissed e)
theorem aggs_find0 (s:ByteArray) (w:World):Calls prog 153 #[.string s] w fun e w'=>AggPost s e w'/\Below w.heap.size w w':=by
 have hmk:∀ w,(Instr.makeMap 220 none).run prog w=.ok (.map (some w.heap.size)) (zAE (w.alloc (.map #[] 0)) w.heap.size []):=fun w=>run_makeMapS w _;have hst:∀ (w:World) (b:Nat) (L:List (ByteArray×Value)) (s:ByteArray) (v:Value),b<w.heap.size->(Instr.mapUpdate 220 (.map (some b)) (.string s) v).run prog (zAE w b L)=.ok () (zAE w b (ups s v L)):=fun w b L s v h=>run_storeS underlying9 underlying220 w h s v L;go_enter func153,ntmps153;go_wp2_with(first|go_in|(at_lookup;refine wpList_lookA rfl 220 _ _ rfl 9 181 underlying9 underlying220 (.agg #[.string ⟨#[]⟩,.int .i64 0,.int .i64 0,.nilFunc]) (fun w=>by kernel_rfl) _ _ _ rfl (by simp) _ rfl ?_ ?_ ?_))
 ·repeat(with_reducible refine AllV.ups ?_ (funA _ _ _ _ _ _))
  exact AllV.nil _
 ·intro c x y fn first cap hv
  go_wp2;go_returns;refine⟨.inl ⟨c,x,y,?_,fn,first,cap,rfl,w.heap.size+1,?_,?_⟩,?_⟩
  ·have h:=congrArg (fun o=>o.bind projA) hv.out;simp only[bind_ups,bind_nil] at h;exact h
  ·have h:=congrArg (fun o=>o.bind projAF) hv.out;simp only[bind_ups,bind_nil] at h;exact h
  ·clear hv;unfold AggCells;go_simp
  ·refine zBk ?_ (by simp);exact bel
 ·intro hv;go_wp2;go_returns;refine⟨.inr ⟨?_,rfl⟩,?_⟩
  ·have h:=congrArg (fun o=>o.bind projA) hv.out;simp only[bind_ups,bind_nil] at h;exact h
  ·refine zBk ?_ (by simp);exact bel
theorem aggs_find_yes (s:ByteArray) (c:ByteArray) (x y:Int) (h:zAV s=some (c,x,y)) (w:World):Calls prog 153 #[.string s] w fun e w'=>AggFound s c x y e w'/\Below w.heap.size w w' :=
 (aggs_find0 s w).mono fun e w' ⟨hp,hb⟩=>by
  rcases hp with ⟨c',x',y',h',hf⟩|⟨h',_⟩
  ·rw[h] at h';cases h';exact⟨hf,hb⟩
  ·rw[h] at h';cases h'
theorem aggs_find_no (s:ByteArray) (h:zAV s=none) (w:World):Calls prog 153 #[.string s] w fun e w'=>AggMissed e/\Below w.heap.size w w' :=
 (aggs_find0 s w).mono fun e w' ⟨hp,hb⟩=>by
  rcases hp with ⟨c',x',y',h',hf⟩|⟨_,hm⟩
  ·rw[h] at h';cases h'
  ·exact⟨hm,hb⟩
end Go.Proofs.YtnccknhbplaieaaGreatDoor
