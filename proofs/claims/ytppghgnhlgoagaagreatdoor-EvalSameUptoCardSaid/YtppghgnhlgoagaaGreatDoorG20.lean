/- Parts. -/
import Derived.Test.YtppghgnhlgoagaaGreatDoorG16
set_option linter.all false
set_option maxRecDepth 100000
set_option maxHeartbeats 4000000
namespace Go.Proofs
open Go.Shelf
def Tryz.lays105_ren:Go.Shelf.Ren:=⟨fun|105=>193|212=>259|99=>260|165=>261|166=>257|170=>256|169=>258|263=>296|264=>58|206=>297|240=>295|241=>298|276=>309|277=>310|n=>n,fun|9=>9|3=>3|4=>4|20=>20|0=>0|46=>161|109=>287|5=>5|72=>280|76=>284|51=>70|146=>317|53=>146|148=>149|70=>278|37=>219|75=>163|127=>316|164=>262|80=>286|n=>n,fun|n=>n⟩
theorem Tryz.lays105:Go.Proofs.Lays.n105 Tryz.prog Tryz.lays105_ren:= {
 mixed:=by kernel_rfl
 f99:=Tryz.func260.trans (congrArg some (by kernel_rfl))
 f105:=Tryz.func193.trans (congrArg some (by kernel_rfl))
 f165:=Tryz.func261.trans (congrArg some (by kernel_rfl))
 f166:=Tryz.func257.trans (congrArg some (by kernel_rfl))
 f169:=Tryz.func258.trans (congrArg some (by kernel_rfl))
 f170:=Tryz.func256.trans (congrArg some (by kernel_rfl))
 f206:=Tryz.func297.trans (congrArg some (by kernel_rfl))
 f212:=Tryz.func259.trans (congrArg some (by kernel_rfl))
 f240:=Tryz.func295.trans (congrArg some (by kernel_rfl))
 f241:=Tryz.func298.trans (congrArg some (by kernel_rfl))
 f263:=Tryz.func296.trans (congrArg some (by kernel_rfl))
 f264:=Tryz.func58.trans (congrArg some (by kernel_rfl))
 f276:=Tryz.func309.trans (congrArg some (by kernel_rfl))
 f277:=Tryz.func310.trans (congrArg some (by kernel_rfl))
 t0:=Tryz.underlying0
 a0:=Tryz.isAgg0
 z0:=Tryz.sizeOf0
 v0:=Tryz.zeroValue0
 t3:=Tryz.underlying3
 a3:=Tryz.isAgg3
 z3:=Tryz.sizeOf3
 v3:=Tryz.zeroValue3
 t4:=Tryz.underlying4
 a4:=Tryz.isAgg4
 z4:=Tryz.sizeOf4
 v4:=Tryz.zeroValue4
 t5:=Tryz.underlying5
 a5:=Tryz.isAgg5
 z5:=Tryz.sizeOf5
 v5:=Tryz.zeroValue5
 t9:=Tryz.underlying9
 a9:=Tryz.isAgg9
 z9:=Tryz.sizeOf9
 v9:=Tryz.zeroValue9
 t20:=Tryz.underlying20
 a20:=Tryz.isAgg20
 z20:=Tryz.sizeOf20
 v20:=Tryz.zeroValue20
 t37:=Tryz.underlying219
 a37:=Tryz.isAgg219
 z37:=Tryz.sizeOf219
 v37:=Tryz.zeroValue219
 t46:=Tryz.underlying161
 a46:=Tryz.isAgg161
 z46:=Tryz.sizeOf161
 v46:=Tryz.zeroValue161
 t51:=Tryz.underlying70
 a51:=Tryz.isAgg70
 z51:=Tryz.sizeOf70
 v51:=Tryz.zeroValue70
 t53:=Tryz.underlying146
 a53:=Tryz.isAgg146
 z53:=Tryz.sizeOf146
 v53:=Tryz.zeroValue146
 t70:=Tryz.underlying278
 a70:=Tryz.isAgg278
 z70:=Tryz.sizeOf278
 v70:=Tryz.zeroValue278
 t72:=Tryz.underlying280
 a72:=Tryz.isAgg280
 z72:=Tryz.sizeOf280
 v72:=Tryz.zeroValue280
 t75:=Tryz.underlying163
 a75:=Tryz.isAgg163
 z75:=Tryz.sizeOf163
 v75:=Tryz.zeroValue163
 t76:=Tryz.underlying284
 a76:=Tryz.isAgg284
 z76:=Tryz.sizeOf284
 v76:=Tryz.zeroValue284
 t109:=Tryz.underlying287
 a109:=Tryz.isAgg287
 z109:=Tryz.sizeOf287
 v109:=Tryz.zeroValue287
 t127:=Tryz.underlying316
 a127:=Tryz.isAgg316
 z127:=Tryz.sizeOf316
 v127:=Tryz.zeroValue316
 t146:=Tryz.underlying317
 a146:=Tryz.isAgg317
 z146:=Tryz.sizeOf317
 v146:=Tryz.zeroValue317
 t148:=Tryz.underlying149
 a148:=Tryz.isAgg149
 z148:=Tryz.sizeOf149
 v148:=Tryz.zeroValue149
 t164:=Tryz.underlying262
 a164:=Tryz.isAgg262
 z164:=Tryz.sizeOf262
 v164:=Tryz.zeroValue262 }
theorem Tryz.Builder_Extra_105:Builder.Extra Tryz.prog Tryz.lays105_ren:= {
 sizeBuilder:=by kernel_rfl
 liesBuilder:=by kernel_rfl
 t5:=Tryz.underlying5
 a5:=Tryz.isAgg5
 z5:=Tryz.sizeOf5
 v5:=Tryz.zeroValue5
 infoByte:=by kernel_rfl
 cellsByte:=by kernel_rfl
 sizeByte:=by kernel_rfl
 neB5:=by decide }
open Go.RowKit Go.Lib in
theorem Tryz.strings_Repeat_main (s:ByteArray) (c:Nat) (w:World) (hc2:2<=c) (hc:c<=9223372036854775807) (hlen:s.size*c<=140737488355328) (h0:0<s.size) :
 Calls Tryz.prog 193 #[.string s,.int .i64 c] w fun e w'=>e=.returned (.string ⟨(Lib.repeatL s.data.toList c).toArray⟩)/\Below w.heap.size w w':=Any.strings_Repeat_main Tryz.lays105 Tryz.Builder_Extra_105 s c w hc2 hc hlen h0
end Go.Proofs
namespace Go.Proofs.YtppghgnhlgoagaaGreatDoor
open Go Go.RowKit
def projT:Value->Option (ByteArray×Int)
 | .agg ⟨[.string s,.int _ a,_]⟩=>some (s,a)
 | _=>none
def projTF:Value->Option Value
 | .agg ⟨[_,_,f]⟩=>some f
 | _=>none
def zB1 (s:ByteArray):Option (ByteArray×Int) :=
 if (⟨#[78,85,77]⟩:ByteArray)=s then some (⟨#[115]⟩,1) else
 if (⟨#[82,69,86]⟩:ByteArray)=s then some (⟨#[115]⟩,1) else
 if (⟨#[69,88,65,67,84]⟩:ByteArray)=s then some (⟨#[115,115]⟩,2) else
 if (⟨#[67,72,65,82]⟩:ByteArray)=s then some (⟨#[110]⟩,1) else
 if (⟨#[79,82,68]⟩:ByteArray)=s then some (⟨#[115]⟩,1) else
 if (⟨#[67,79,78,67,65,84]⟩:ByteArray)=s then some (⟨#[115,115,115,115,115,115,115,115,115,115,115,115,115,115,115,115]⟩,1) else
 if (⟨#[83,85,66,83,84]⟩:ByteArray)=s then some (⟨#[115,115,115]⟩,3) else
 if (⟨#[70,73,78,68]⟩:ByteArray)=s then some (⟨#[115,115,110]⟩,2) else
 if (⟨#[82,69,80,84]⟩:ByteArray)=s then some (⟨#[115,110]⟩,2) else
 if (⟨#[84,82,73,77]⟩:ByteArray)=s then some (⟨#[115]⟩,1) else
 if (⟨#[76,79,87,69,82]⟩:ByteArray)=s then some (⟨#[115]⟩,1) else
 if (⟨#[85,80,80,69,82]⟩:ByteArray)=s then some (⟨#[115]⟩,1) else
 if (⟨#[77,73,68]⟩:ByteArray)=s then some (⟨#[115,110,110]⟩,3) else
 if (⟨#[82,73,71,72,84]⟩:ByteArray)=s then some (⟨#[115,110]⟩,1) else
 if (⟨#[76,69,70,84]⟩:ByteArray)=s then some (⟨#[115,110]⟩,1) else
 if (⟨#[76,69,78]⟩:ByteArray)=s then some (⟨#[115]⟩,1) else none
def textFn (p q:Nat) (s:ByteArray):Option Value :=
 if (⟨#[78,85,77]⟩:ByteArray)=s then some (.func (.func 199) #[] #[]) else
 if (⟨#[82,69,86]⟩:ByteArray)=s then some (.func (.func 251) #[] #[.pointer (some ⟨q,0,none⟩)]) else
 if (⟨#[69,88,65,67,84]⟩:ByteArray)=s then some (.func (.func 197) #[] #[]) else
 if (⟨#[67,72,65,82]⟩:ByteArray)=s then some (.func (.func 196) #[] #[]) else
 if (⟨#[79,82,68]⟩:ByteArray)=s then some (.func (.func 195) #[] #[]) else
 if (⟨#[67,79,78,67,65,84]⟩:ByteArray)=s then some (.func (.func 194) #[] #[]) else
 if (⟨#[83,85,66,83,84]⟩:ByteArray)=s then some (.func (.func 192) #[] #[]) else
 if (⟨#[70,73,78,68]⟩:ByteArray)=s then some (.func (.func 191) #[] #[]) else
 if (⟨#[82,69,80,84]⟩:ByteArray)=s then some (.func (.func 190) #[] #[]) else
 if (⟨#[84,82,73,77]⟩:ByteArray)=s then some (.func (.func 251) #[] #[.pointer (some ⟨p+3,0,none⟩)]) else
 if (⟨#[76,79,87,69,82]⟩:ByteArray)=s then some (.func (.func 251) #[] #[.pointer (some ⟨p+2,0,none⟩)]) else
 if (⟨#[85,80,80,69,82]⟩:ByteArray)=s then some (.func (.func 251) #[] #[.pointer (some ⟨p+1,0,none⟩)]) else
 if (⟨#[77,73,68]⟩:ByteArray)=s then some (.func (.func 184) #[] #[]) else
 if (⟨#[82,73,71,72,84]⟩:ByteArray)=s then some (.func (.func 183) #[] #[]) else
 if (⟨#[76,69,70,84]⟩:ByteArray)=s then some (.func (.func 182) #[] #[]) else
 if (⟨#[76,69,78]⟩:ByteArray)=s then some (.func (.func 180) #[] #[]) else none
def TextCells (p q:Nat) (w':World):Prop:=w'.cell? ⟨p+1,0,none⟩=some (.func (.func 186) #[] #[])/\w'.cell? ⟨p+2,0,none⟩=some (.func (.func 188) #[] #[]) /\
 w'.cell? ⟨p+3,0,none⟩=some (.func (.func 189) #[] #[])/\w'.cell? ⟨q,0,none⟩=some (.func (.func 198) #[] #[])
def TextFound (s:ByteArray) (c:ByteArray) (x:Int) (e:Ending) (w':World):Prop:=∃ fn first cap,e=.returned (.tuple #[.agg #[.string c,.int .i64 x,.func fn first cap],.bool true]) /\
 ∃ p q,textFn p q s=some (.func fn first cap)/\TextCells p q w'
def TextMissed (e:Ending):Prop:=e=.returned (.tuple #[.agg #[.string ⟨#[]⟩,.int .i64 0,.nilFunc],.bool false])
def TextPost (s:ByteArray) (e:Ending) (w':World):Prop:=(∃ c x,zB1 s=some (c,x)/\TextFound s c x e w')∨(zB1 s=none/\TextMissed e)
theorem rep16 (w:World):Rt 193 #[.string ⟨#[115]⟩,.int .i64 16] w (.string ⟨#[115,115,115,115,115,115,115,115,115,115,115,115,115,115,115,115]⟩) :=
 Tryz.strings_Repeat_main ⟨#[115]⟩ 16 w (by decide) (by decide) (by decide) (by decide)
theorem texts_find0 (s:ByteArray) (w:World):Calls Tryz.prog 132 #[.string s] w fun e w'=>TextPost s e w'/\Below w.heap.size w w':=by
 have hmk:∀ w,(Instr.makeMap 241 none).run Tryz.prog w=.ok (.map (some w.heap.size)) (zAI (w.alloc (.map #[] 0)) w.heap.size []):=fun w=>run_makeMapS w _
 have hst:∀ (w:World) (b:Nat) (L:List (ByteArray×Value)) (s:ByteArray) (v:Value),b<w.heap.size->(Instr.mapUpdate 241 (.map (some b)) (.string s) v).run Tryz.prog (zAI w b L)=.ok () (zAI w b (ups s v L)):=fun w b L s v h=>run_storeS Tryz.underlying9 Tryz.underlying241 w h s v L
 have hst2:∀ (w:World) (l:List Obj) (n:Nat) (o:Obj) (b:Nat) (L:List (ByteArray×Value)) (s:ByteArray) (v:Value),b<w.heap.size->(Instr.mapUpdate 241 (.map (some b)) (.string s) v).run Tryz.prog (zAI ((more w l n).alloc o) b L)=.ok () (zAI ((more w l n).alloc o) b (ups s v L)):=fun w l n o b L s v h=>run_storeS Tryz.underlying9 Tryz.underlying241 _ (by simp;omega) s v L
 have hn1:∀ l:List Obj,w.heap.size<w.heap.size+1+1+1+1+1+l.length:=fun l=>by omega
 have hn2:∀ l:List Obj,w.heap.size+1<w.heap.size+1+1+1+1+1+l.length:=fun l=>by omega
 have hn3:∀ l:List Obj,w.heap.size<=w.heap.size+1+1+1+1+1+l.length:=fun l=>by omega
 have hn4:∀ l:List Obj,w.heap.size+1<=w.heap.size+1+1+1+1+1+l.length:=fun l=>by omega
 have hn5:∀ l:List Obj,¬ w.heap.size=w.heap.size+1+1+1+1+1+l.length:=fun l=>by omega
 have hn6:∀ l:List Obj,¬ w.heap.size+1=w.heap.size+1+1+1+1+1+l.length:=fun l=>by omega
 have hn7:∀ l:List Obj,¬ w.heap.size+1=w.heap.size+1+1+1+1+1+l.length+1:=fun l=>by omega
 go_enter Tryz.func132,Tryz.ntmps132
 go_wp2_with(first|(go_at_call 185;go_in)|(go_at_call 193;refine mB (rep16 _) ?_;intro l n)|(at_lookup;refine wpList_lookT rfl 241 _ _ rfl 9 204 Tryz.underlying9 Tryz.underlying241 (.agg #[.string ⟨#[]⟩,.int .i64 0,.nilFunc]) (fun w=>by kernel_rfl) _ _ _ rfl (by simp;omega) _ rfl ?_ ?_ ?_))
 ·repeat(with_reducible refine AllV.ups ?_ (funT _ _ _ _ _))
  exact AllV.nil _
 ·intro c x fn first cap hv
  go_wp2
  refine bodyPost_ret (by simp[results,Tryz.results132,go_sem,hn1,hn2,hn3,hn4,hn5,hn6,hn7];try rfl) rfl ?_
  refine⟨.inl ⟨c,x,?_,fn,first,cap,rfl,w.heap.size+1,w.heap.size+1+1+1+1+1+l.length,?_,?_⟩,?_⟩
  ·have h:=congrArg (fun o=>o.bind projT) hv.out
   simp only[zCL,zCK] at h
   exact h
  ·have h:=congrArg (fun o=>o.bind projTF) hv.out
   simp only[zCL,zCK] at h
   exact h
  ·clear hv
   refine⟨?_,?_,?_,?_⟩
   iterate 3
    ·rw[setMap_cell (by omega),World.cell?_alloc_past _ _ _ (by simp only[World.size_alloc,zAU];omega),World.cell?_alloc_past _ _ _ (by simp only[World.size_alloc,zAU];omega),zCC (by simp only[World.size_alloc,zAU];omega)]
     go_simp
   ·rw[setMap_cell (by omega),World.cell?_alloc_past _ _ _ (by simp only[World.size_alloc,zAU];omega),World.cell?_alloc_at _ _ _ _ (by simp only[World.size_alloc,zAU])]
    rfl
  ·refine zBU ?_ (by simp)
   exact bel
 ·intro hv
  go_wp2
  refine bodyPost_ret (by simp[results,Tryz.results132,go_sem,hn1,hn2,hn3,hn4,hn5,hn6,hn7];try rfl) rfl ?_
  refine⟨.inr ⟨?_,rfl⟩,?_⟩
  ·have h:=congrArg (fun o=>o.bind projT) hv.out
   simp only[zCL,zCK] at h
   exact h
  ·refine zBU ?_ (by simp)
   exact bel
theorem zBh (s:ByteArray) (c:ByteArray) (x:Int) (h:zB1 s=some (c,x)) (w:World):Calls Tryz.prog 132 #[.string s] w fun e w'=>TextFound s c x e w'/\Below w.heap.size w w' :=
 (texts_find0 s w).mono fun e w' ⟨hp,hb⟩=>by
  rcases hp with ⟨c',x',h',hf⟩|⟨h',_⟩
  ·rw[h] at h';cases h';exact⟨hf,hb⟩
  ·rw[h] at h';cases h'
theorem texts_find_no (s:ByteArray) (h:zB1 s=none) (w:World):Calls Tryz.prog 132 #[.string s] w fun e w'=>TextMissed e/\Below w.heap.size w w' :=
 (texts_find0 s w).mono fun e w' ⟨hp,hb⟩=>by
  rcases hp with ⟨c',x',h',hf⟩|⟨_,hm⟩
  ·rw[h] at h';cases h'
  ·exact⟨hm,hb⟩
theorem nums_Known (s:ByteArray) (w:World):Rt 89 #[.string s] w (.bool (zC4 s).isSome):=by
 cases h:zC4 s with
 | none =>
   go_enter Tryz.func89,Tryz.ntmps89
   go_wp2_with fail
   refine(nums_find_no s h _).mono ?_
   rintro e w1 ⟨hm,hb⟩
   obtain rfl:=hm
   obtain⟨l,n,rfl⟩:=zA0 hb
   clear hb h
   go_wp2
   go_ret
   exact⟨rfl,bel⟩
 | some q =>
   obtain⟨x,y⟩:=q
   go_enter Tryz.func89,Tryz.ntmps89
   go_wp2_with fail
   refine(zC0 s x y h _).mono ?_
   rintro e w1 ⟨⟨fn,first,cap,rfl,_⟩,hb⟩
   obtain⟨l,n,rfl⟩:=zA0 hb
   clear hb h
   go_wp2
   go_ret
   exact⟨rfl,bel⟩
theorem texts_Known (s:ByteArray) (w:World):Rt 92 #[.string s] w (.bool (zB1 s).isSome):=by
 cases h:zB1 s with
 | none =>
   go_enter Tryz.func92,Tryz.ntmps92
   go_wp2_with fail
   refine(texts_find_no s h _).mono ?_
   rintro e w1 ⟨hm,hb⟩
   obtain rfl:=hm
   obtain⟨l,n,rfl⟩:=zA0 hb
   clear hb h
   go_wp2
   go_ret
   exact⟨rfl,bel⟩
 | some q =>
   obtain⟨x,y⟩:=q
   go_enter Tryz.func92,Tryz.ntmps92
   go_wp2_with fail
   refine(zBh s x y h _).mono ?_
   rintro e w1 ⟨⟨fn,first,cap,rfl,_⟩,hb⟩
   obtain⟨l,n,rfl⟩:=zA0 hb
   clear hb h
   go_wp2
   go_ret
   exact⟨rfl,bel⟩
theorem aggs_Known (s:ByteArray) (w:World):Rt 95 #[.string s] w (.bool (zB4 s).isSome):=by
 cases h:zB4 s with
 | none =>
   go_enter Tryz.func95,Tryz.ntmps95
   go_wp2_with fail
   refine(aggs_find_no s h _).mono ?_
   rintro e w1 ⟨hm,hb⟩
   obtain rfl:=hm
   obtain⟨l,n,rfl⟩:=zA0 hb
   clear hb h
   go_wp2
   go_ret
   exact⟨rfl,bel⟩
 | some q =>
   obtain⟨c,x,y⟩:=q
   go_enter Tryz.func95,Tryz.ntmps95
   go_wp2_with fail
   refine(zBw s c x y h _).mono ?_
   rintro e w1 ⟨⟨fn,first,cap,rfl,_⟩,hb⟩
   obtain⟨l,n,rfl⟩:=zA0 hb
   clear hb h
   go_wp2
   go_ret
   exact⟨rfl,bel⟩
def between (x y:Int) (n:Nat):Bool:=decide (x<=n)&&decide (n<=y)
def zBZ (s:ByteArray) (xs:List Bool):Bool:=match zC4 s with
 | some (x,y)=>between x y xs.length&& !zAm xs
 | none=>false
def zBG (s:ByteArray) (xs:List Bool):Bool:=match zB1 s with
 | some (c,x)=>between x c.size xs.length&& !zAm xs
 | none=>false
theorem nums_Takes (s:ByteArray) (A:Option Addr) (n c:Nat) (xs:List Bool) (w:World) (B:Nat) (hr:Reads w B 1 A n (xs.map Value.bool)) (hm:n<=9223372036854775807) :
  Rt 90 #[.string s,.slice A n c] w (.bool (zBZ s xs)):=by
 have hlen:xs.length=n:=by have:=hr.1;simpa using this
 cases h:zC4 s with
 | none =>
   have e:zBZ s xs=false:=by simp[zBZ,h]
   rw[e]
   clear hr hm hlen
   go_enter Tryz.func90,Tryz.ntmps90
   go_wp2_with fail
   refine(nums_find_no s h _).mono ?_
   rintro e w1 ⟨hm,hb⟩
   obtain rfl:=hm
   obtain⟨l,n,rfl⟩:=zA0 hb
   clear hb h e
   go_wp2
   go_ret
   exact⟨rfl,bel⟩
 | some q =>
   obtain⟨x,y⟩:=q
   have e:zBZ s xs=(between x y n&& !zAm xs):=by simp[zBZ,h,hlen]
   rw[e]
   clear hlen e
   by_cases hx:x<=n
   ·by_cases hy:n<=y
    ·have e:(between x y n&& !zAm xs)= !zAm xs:=by simp[between,hx,hy]
     rw[e]
     clear e
     go_enter Tryz.func90,Tryz.ntmps90
     go_wp2_with fail
     refine(zC0 s x y h _).mono ?_
     rintro e w1 ⟨⟨fn,first,cap,rfl,_⟩,hb⟩
     obtain⟨l,k,rfl⟩:=zA0 hb
     clear hb h
     go_wp2_with fail
     refine(contains_bools A n c B xs _ (hr.keeps kps) hm).mono ?_
     rintro e w1 ⟨rfl,rfl⟩
     clear hr
     go_wp2
     go_ret
     exact⟨rfl,bel⟩
    ·have e:(between x y n&& !zAm xs)=false:=by simp[between,hy]
     rw[e]
     clear e hr
     go_enter Tryz.func90,Tryz.ntmps90
     go_wp2_with fail
     refine(zC0 s x y h _).mono ?_
     rintro e w1 ⟨⟨fn,first,cap,rfl,_⟩,hb⟩
     obtain⟨l,k,rfl⟩:=zA0 hb
     clear hb h
     go_wp2
     go_ret
     exact⟨rfl,bel⟩
   ·have e:(between x y n&& !zAm xs)=false:=by simp[between,hx]
    rw[e]
    clear e hr
    go_enter Tryz.func90,Tryz.ntmps90
    go_wp2_with fail
    refine(zC0 s x y h _).mono ?_
    rintro e w1 ⟨⟨fn,first,cap,rfl,_⟩,hb⟩
    obtain⟨l,k,rfl⟩:=zA0 hb
    clear hb h
    go_wp2
    go_ret
    exact⟨rfl,bel⟩
theorem texts_Takes (s:ByteArray) (A:Option Addr) (n c:Nat) (xs:List Bool) (w:World) (B:Nat) (hr:Reads w B 1 A n (xs.map Value.bool)) (hm:n<=9223372036854775807) :
  Rt 93 #[.string s,.slice A n c] w (.bool (zBG s xs)):=by
 have hlen:xs.length=n:=by have:=hr.1;simpa using this
 cases h:zB1 s with
 | none =>
   have e:zBG s xs=false:=by simp[zBG,h]
   rw[e]
   clear hr hm hlen
   go_enter Tryz.func93,Tryz.ntmps93
   go_wp2_with fail
   refine(texts_find_no s h _).mono ?_
   rintro e w1 ⟨hm,hb⟩
   obtain rfl:=hm
   obtain⟨l,n,rfl⟩:=zA0 hb
   clear hb h e
   go_wp2
   go_ret
   exact⟨rfl,bel⟩
 | some q =>
   obtain⟨y,x⟩:=q
   have e:zBG s xs=(between x y.size n&& !zAm xs):=by simp[zBG,h,hlen]
   rw[e]
   clear hlen e
   by_cases hx:x<=n
   ·by_cases hy:n<=y.size
    ·have e:(between x y.size n&& !zAm xs)= !zAm xs:=by simp[between,hx,hy]
     rw[e]
     clear e
     go_enter Tryz.func93,Tryz.ntmps93
     go_wp2_with fail
     refine(zBh s y x h _).mono ?_
     rintro e w1 ⟨⟨fn,first,cap,rfl,_⟩,hb⟩
     obtain⟨l,k,rfl⟩:=zA0 hb
     clear hb h
     go_wp2_with fail
     refine(contains_bools A n c B xs _ (hr.keeps kps) hm).mono ?_
     rintro e w1 ⟨rfl,rfl⟩
     clear hr
     go_wp2
     go_ret
     exact⟨rfl,bel⟩
    ·have e:(between x y.size n&& !zAm xs)=false:=by simp[between,hy]
     rw[e]
     clear e hr
     go_enter Tryz.func93,Tryz.ntmps93
     go_wp2_with fail
     refine(zBh s y x h _).mono ?_
     rintro e w1 ⟨⟨fn,first,cap,rfl,_⟩,hb⟩
     obtain⟨l,k,rfl⟩:=zA0 hb
     clear hb h
     go_wp2
     go_ret
     exact⟨rfl,bel⟩
   ·have e:(between x y.size n&& !zAm xs)=false:=by simp[between,hx]
    rw[e]
    have hd:decide (x<= ↑n)=false:=by simpa using hx
    clear e hr hx
    go_enter Tryz.func93,Tryz.ntmps93
    go_wp2_with fail
    refine(zBh s y x h _).mono ?_
    rintro e w1 ⟨⟨fn,first,cap,rfl,_⟩,hb⟩
    obtain⟨l,k,rfl⟩:=zA0 hb
    clear hb h
    go_wp2
    all_goals go_ret
    all_goals exact⟨rfl,bel⟩
open Go.Lib renaming hid->zh
def zC8 (f:Int->Int->Int×Int) (x y:Int):V:=if (zAL y).2 then numC (f x (zAL y).1) else errG 8
def truncP (x n:Int):Int×Int:=(truncX x n,0)
theorem trunc_below (x n:Int) (hx:In63 x) (hn:Is64 n) (w:World):Rt 163 #[.int .i64 x,.int .i64 n] w (.tuple #[.int .i64 (truncP x n).1,.int .i64 (truncP x n).2]) :=
 (nums_trunc x n hx hn w).mono fun e w' ⟨h1,h2⟩=>⟨h1,h2 ▸ Below.refl _ _⟩
theorem is64_nought:Is64 0:=⟨by decide,by decide⟩
theorem places_trunc1 (x:Int) (hx:In63 x) (p g c:Nat) (w:World) (hp:w.cell? ⟨p,0,none⟩=some (.func (.func 163) #[] #[])) (h0:w.cell? ⟨g,0,none⟩=some (.int .i64 x)) :
  Rt 241 #[.slice (some ⟨g,0,none⟩) 1 c,.pointer (some ⟨p,0,none⟩)] w (vG (numC (truncP x 0))):=by
 have hl:=cltK h0
 have hpl:=cltK hp
 have HX:=zh hx
 clear hx
 go_enter Tryz.func241,Tryz.ntmps241
 go_wp2_with fail
 go_region_held3 (fun w'=>w'.cell? ⟨p,0,none⟩=some (.func (.func 163) #[] #[])/\w'.cell? ⟨g,0,none⟩=some (.int .i64 x))
  (first|(go_keep;done)|(go_split_ands;refine⟨?_,?_⟩<;>(repeat(first|assumption|with_reducible refine zAZ ?_ _ _|with_reducible refine zAB ?_ _|with_reducible refine zAT ?_))))
  (first|(go_at_call 163;refine mB (trunc_below x 0 HX.out is64_nought _) ?_;intro l1 n1)|(go_at_call 160;refine mB (zBW _ _ _) ?_;intro l2 n2))
 all_goals go_wp2
 all_goals go_returns
 all_goals exact⟨rfl,bel⟩
theorem places_trunc2 (x y:Int) (hx:In63 x) (hy:Is64 y) (p g c:Nat) (w:World) (hp:w.cell? ⟨p,0,none⟩=some (.func (.func 163) #[] #[])) (h0:w.cell? ⟨g,0,none⟩=some (.int .i64 x)) (h1:w.cell? ⟨g,1,none⟩=some (.int .i64 y)) :
  Rt 241 #[.slice (some ⟨g,0,none⟩) 2 c,.pointer (some ⟨p,0,none⟩)] w (vG (zC8 truncP x y)):=by
 have hl:=cltK h0
 have hpl:=cltK hp
 have HX:=zh hx
 have HW:=zh (show Is64 (zAL y).1 from (whole_63 y hy).to64)
 have HY:=zh hy
 clear hx hy
 unfold zC8
 cases h:(zAL y).2
 ·rw[if_neg (by decide)]
  go_enter Tryz.func241,Tryz.ntmps241
  go_wp2_with(first|(go_at_call 134;refine(zAs y HY.out.1 HY.out.2 _).mono ?_;rintro e w1 ⟨rfl,rfl⟩)|(go_at_call 21;refine mB (zA3 _ _) ?_;intro l m))
  all_goals go_returns
  all_goals exact⟨rfl,bel⟩
 ·rw[if_pos rfl]
  go_enter Tryz.func241,Tryz.ntmps241
  go_wp2_with(go_at_call 134;refine(zAs y HY.out.1 HY.out.2 _).mono ?_;rintro e w1 ⟨rfl,rfl⟩)
  go_region_held3 (fun w'=>w'.cell? ⟨p,0,none⟩=some (.func (.func 163) #[] #[])/\w'.cell? ⟨g,0,none⟩=some (.int .i64 x))
   (first|(go_keep;done)|(go_split_ands;refine⟨?_,?_⟩<;>(repeat(first|assumption|with_reducible refine zAZ ?_ _ _|with_reducible refine zAB ?_ _|with_reducible refine zAT ?_))))
   (first|(go_at_call 163;refine mB (trunc_below x (zAL y).1 HX.out HW.out _) ?_;intro l1 n1)|(go_at_call 160;refine mB (zBW _ _ _) ?_;intro l2 n2))
  all_goals go_wp2
  all_goals go_returns
  all_goals exact⟨rfl,bel⟩
theorem places_round1 (x:Int) (hx:In63 x) (p g c:Nat) (w:World) (hp:w.cell? ⟨p,0,none⟩=some (.func (.func 164) #[] #[])) (h0:w.cell? ⟨g,0,none⟩=some (.int .i64 x)) :
  Rt 241 #[.slice (some ⟨g,0,none⟩) 1 c,.pointer (some ⟨p,0,none⟩)] w (vG (numC (roundX x 0))):=by
 have hl:=cltK h0
 have hpl:=cltK hp
 have HX:=zh hx
 clear hx
 go_enter Tryz.func241,Tryz.ntmps241
 go_wp2_with fail
 go_region_held3 (fun w'=>w'.cell? ⟨p,0,none⟩=some (.func (.func 164) #[] #[])/\w'.cell? ⟨g,0,none⟩=some (.int .i64 x))
  (first|(go_keep;done)|(go_split_ands;refine⟨?_,?_⟩<;>(repeat(first|assumption|with_reducible refine zAZ ?_ _ _|with_reducible refine zAB ?_ _|with_reducible refine zAT ?_))))
  (first|(go_at_call 164;refine mB (dec_Round x 0 HX.out.to64 is64_nought _) ?_;intro l1 n1)|(go_at_call 160;refine mB (zBW _ _ _) ?_;intro l2 n2))
 all_goals go_wp2
 all_goals go_returns
 all_goals exact⟨rfl,bel⟩
theorem places_round2 (x y:Int) (hx:In63 x) (hy:Is64 y) (p g c:Nat) (w:World) (hp:w.cell? ⟨p,0,none⟩=some (.func (.func 164) #[] #[])) (h0:w.cell? ⟨g,0,none⟩=some (.int .i64 x)) (h1:w.cell? ⟨g,1,none⟩=some (.int .i64 y)) :
  Rt 241 #[.slice (some ⟨g,0,none⟩) 2 c,.pointer (some ⟨p,0,none⟩)] w (vG (zC8 roundX x y)):=by
 have hl:=cltK h0
 have hpl:=cltK hp
 have HX:=zh hx
 have HW:=zh (show Is64 (zAL y).1 from (whole_63 y hy).to64)
 have HY:=zh hy
 clear hx hy
 unfold zC8
 cases h:(zAL y).2
 ·rw[if_neg (by decide)]
  go_enter Tryz.func241,Tryz.ntmps241
  go_wp2_with(first|(go_at_call 134;refine(zAs y HY.out.1 HY.out.2 _).mono ?_;rintro e w1 ⟨rfl,rfl⟩)|(go_at_call 21;refine mB (zA3 _ _) ?_;intro l m))
  all_goals go_returns
  all_goals exact⟨rfl,bel⟩
 ·rw[if_pos rfl]
  go_enter Tryz.func241,Tryz.ntmps241
  go_wp2_with(go_at_call 134;refine(zAs y HY.out.1 HY.out.2 _).mono ?_;rintro e w1 ⟨rfl,rfl⟩)
  go_region_held3 (fun w'=>w'.cell? ⟨p,0,none⟩=some (.func (.func 164) #[] #[])/\w'.cell? ⟨g,0,none⟩=some (.int .i64 x))
   (first|(go_keep;done)|(go_split_ands;refine⟨?_,?_⟩<;>(repeat(first|assumption|with_reducible refine zAZ ?_ _ _|with_reducible refine zAB ?_ _|with_reducible refine zAT ?_))))
   (first|(go_at_call 164;refine mB (dec_Round x (zAL y).1 HX.out.to64 HW.out _) ?_;intro l1 n1)|(go_at_call 160;refine mB (zBW _ _ _) ?_;intro l2 n2))
  all_goals go_wp2
  all_goals go_returns
  all_goals exact⟨rfl,bel⟩
theorem places_power2 (x y:Int) (hx:In63 x) (hy:Is64 y) (p g c:Nat) (w:World) (hp:w.cell? ⟨p,0,none⟩=some (.func (.func 171) #[] #[])) (h0:w.cell? ⟨g,0,none⟩=some (.int .i64 x)) (h1:w.cell? ⟨g,1,none⟩=some (.int .i64 y)) :
  Rt 241 #[.slice (some ⟨g,0,none⟩) 2 c,.pointer (some ⟨p,0,none⟩)] w (vG (zC8 powX x y)):=by
 have hl:=cltK h0
 have hpl:=cltK hp
 have HX:=zh hx
 have HW:=zh (show Is64 (zAL y).1 from (whole_63 y hy).to64)
 have HY:=zh hy
 clear hx hy
 unfold zC8
 cases h:(zAL y).2
 ·rw[if_neg (by decide)]
  go_enter Tryz.func241,Tryz.ntmps241
  go_wp2_with(first|(go_at_call 134;refine(zAs y HY.out.1 HY.out.2 _).mono ?_;rintro e w1 ⟨rfl,rfl⟩)|(go_at_call 21;refine mB (zA3 _ _) ?_;intro l m))
  all_goals go_returns
  all_goals exact⟨rfl,bel⟩
 ·rw[if_pos rfl]
  go_enter Tryz.func241,Tryz.ntmps241
  go_wp2_with(go_at_call 134;refine(zAs y HY.out.1 HY.out.2 _).mono ?_;rintro e w1 ⟨rfl,rfl⟩)
  go_region_held3 (fun w'=>w'.cell? ⟨p,0,none⟩=some (.func (.func 171) #[] #[])/\w'.cell? ⟨g,0,none⟩=some (.int .i64 x))
   (first|(go_keep;done)|(go_split_ands;refine⟨?_,?_⟩<;>(repeat(first|assumption|with_reducible refine zAZ ?_ _ _|with_reducible refine zAB ?_ _|with_reducible refine zAT ?_))))
   (first|(go_at_call 171;refine mB (dec_Power x (zAL y).1 HX.out.to64 HW.out _) ?_;intro l1 n1)|(go_at_call 160;refine mB (zBW _ _ _) ?_;intro l2 n2))
  all_goals go_wp2
  all_goals go_returns
  all_goals exact⟨rfl,bel⟩
theorem nums_sqrt (x:Int) (hx:Is64 x) (g c:Nat) (w:World) (h0:w.cell? ⟨g,0,none⟩=some (.int .i64 x)):Rt 172 #[.slice (some ⟨g,0,none⟩) 1 c] w (vG (numC (sqrtX x))):=by
 have hl:=cltK h0
 have HX:=zh hx
 clear hx
 go_enter Tryz.func172,Tryz.ntmps172
 go_wp2_with(first|(go_at_call 173;refine mB (dec_Sqrt _ HX.out _) ?_;intro l1 n1)|(go_at_call 160;refine mB (zBW _ _ _) ?_;intro l n))
 all_goals go_returns
 all_goals exact⟨rfl,bel⟩
def numDo (s:ByteArray) (l:List Int):V :=
 if (⟨#[79,68,68]⟩:ByteArray)=s then oddX (l.getD 0 0) else
 if (⟨#[67,76,65,77,80]⟩:ByteArray)=s then clampX (l.getD 0 0) (l.getD 1 0) (l.getD 2 0) else
 if (⟨#[70,65,67,84]⟩:ByteArray)=s then factX (l.getD 0 0) else
 if (⟨#[76,67,77]⟩:ByteArray)=s then lcmX l else
 if (⟨#[71,67,68]⟩:ByteArray)=s then gcdX l else
 if (⟨#[83,81,82,84]⟩:ByteArray)=s then numC (sqrtX (l.getD 0 0)) else
 if (⟨#[80,79,87,69,82]⟩:ByteArray)=s then zC8 powX (l.getD 0 0) (l.getD 1 0) else
 if (⟨#[81,85,79,84]⟩:ByteArray)=s then quotX (l.getD 0 0) (l.getD 1 0) else
 if (⟨#[77,79,68]⟩:ByteArray)=s then numC (modX (l.getD 0 0) (l.getD 1 0)) else
 if (⟨#[67,69,73,76]⟩:ByteArray)=s then numC (ceilX (l.getD 0 0) (l.getD 1 0)) else
 if (⟨#[70,76,79,79,82]⟩:ByteArray)=s then numC (zBJ (l.getD 0 0) (l.getD 1 0)) else
 if (⟨#[82,79,85,78,68]⟩:ByteArray)=s then (if l.length=2 then zC8 roundX (l.getD 0 0) (l.getD 1 0) else numC (roundX (l.getD 0 0) 0)) else
 if (⟨#[84,82,85,78,67]⟩:ByteArray)=s then (if l.length=2 then zC8 truncP (l.getD 0 0) (l.getD 1 0) else numC (truncP (l.getD 0 0) 0)) else
 if (⟨#[73,78,84]⟩:ByteArray)=s then numC (floorX (l.getD 0 0)) else
 if (⟨#[83,73,71,78]⟩:ByteArray)=s then signV (l.getD 0 0) else
 if (⟨#[65,66,83]⟩:ByteArray)=s then numG (max (l.getD 0 0) (-(l.getD 0 0))) else errG 8
def DoesN (w:World) (fn:Fn) (first cap:Array Value) (l:List Int) (r:V):Prop :=
 (∃ k,fn=.func k/\first= #[]/\cap= #[]/\(∀ (args:Array Value) (w:World),Sem.run Tryz.prog (callFunc k args) w=.ok (.enter k args) w)/\∀ W g c,Below w.heap.size w W->AtB W g (I l)->g<W.heap.size->Calls Tryz.prog k #[.slice (some ⟨g,0,none⟩) l.length c] W fun e w'=>e=.returned (vG r)/\Below W.heap.size W w') ∨
 (∃ k p,fn=.func k/\first= #[]/\cap= #[.pointer (some ⟨p,0,none⟩)]/\(∀ (args:Array Value) (w:World),Sem.run Tryz.prog (callFunc k args) w=.ok (.enter k args) w)/\∀ W g c,Below w.heap.size w W->AtB W g (I l)->g<W.heap.size->Calls Tryz.prog k #[.slice (some ⟨g,0,none⟩) l.length c,.pointer (some ⟨p,0,none⟩)] W fun e w'=>e=.returned (vG r)/\Below W.heap.size W w')
theorem cellB_below {w W:World} {p i:Nat} {v:Value} (h:w.cell? ⟨p,i,none⟩=some v) (hB:Below w.heap.size w W):W.cell? ⟨p,i,none⟩=some v:=cell_below h hB
theorem num_do {w:World} {s:ByteArray} {x y:Int} {fn:Fn} {first cap:Array Value} {p1 p2 p3:Nat} (ht:zC4 s=some (x,y)) (hf:numFn p1 p2 p3 s=some (.func fn first cap))
  (hk1:w.cell? ⟨p1,0,none⟩=some (.func (.func 163) #[] #[])) (hk2:w.cell? ⟨p2,0,none⟩=some (.func (.func 164) #[] #[])) (hk3:w.cell? ⟨p3,0,none⟩=some (.func (.func 171) #[] #[]))
  (l:List Int) (hb:between x y l.length=true) (h63:∀ a∈l,In63 a):DoesN w fn first cap l (numDo s l):=by
 unfold zC4 at ht
 unfold numFn at hf
 unfold numDo
 simp only[between,Bool.and_eq_true,decide_eq_true_eq] at hb
 by_cases eODD:(⟨#[79,68,68]⟩:ByteArray)=s
 ·rw[if_pos eODD] at ht hf ⊢
  cases ht
  cases hf
  have hl:l.length=1:=by omega
  match l,hl with
  | [a0],_ =>
    have h0:=h63 a0 (by simp)
    refine .inl ⟨_,rfl,rfl,rfl,fun _ _=>rfl,fun w g c hB hA hg=> ?_⟩
    have q0:=hA 0 _ rfl
    exact nums_odd a0 h0.to64 g c w q0
 rw[if_neg eODD] at ht hf ⊢
 by_cases eCLAMP:(⟨#[67,76,65,77,80]⟩:ByteArray)=s
 ·rw[if_pos eCLAMP] at ht hf ⊢
  cases ht
  cases hf
  have hl:l.length=3:=by omega
  match l,hl with
  | [a0,a1,a2],_ =>
    have h0:=h63 a0 (by simp)
    have h1:=h63 a1 (by simp)
    refine .inl ⟨_,rfl,rfl,rfl,fun _ _=>rfl,fun w g c hB hA hg=> ?_⟩
    have q0:=hA 0 _ rfl
    have q1:=hA 1 _ rfl
    have q2:=hA 2 _ rfl
    exact nums_clamp a0 a1 a2 g c w q0 q1 q2
 rw[if_neg eCLAMP] at ht hf ⊢
 by_cases eFACT:(⟨#[70,65,67,84]⟩:ByteArray)=s
 ·rw[if_pos eFACT] at ht hf ⊢
  cases ht
  cases hf
  have hl:l.length=1:=by omega
  match l,hl with
  | [a0],_ =>
    have h0:=h63 a0 (by simp)
    refine .inl ⟨_,rfl,rfl,rfl,fun _ _=>rfl,fun w g c hB hA hg=> ?_⟩
    have q0:=hA 0 _ rfl
    exact nums_fact a0 h0.to64 g c w q0
 rw[if_neg eFACT] at ht hf ⊢
 by_cases eLCM:(⟨#[76,67,77]⟩:ByteArray)=s
 ·rw[if_pos eLCM] at ht hf ⊢
  cases ht
  cases hf
  refine .inl ⟨_,rfl,rfl,rfl,fun _ _=>rfl,fun w g c hB hA hg=> ?_⟩
  exact nums_lcmOf l h63 (by omega) g c w hA hg
 rw[if_neg eLCM] at ht hf ⊢
 by_cases eGCD:(⟨#[71,67,68]⟩:ByteArray)=s
 ·rw[if_pos eGCD] at ht hf ⊢
  cases ht
  cases hf
  refine .inl ⟨_,rfl,rfl,rfl,fun _ _=>rfl,fun w g c hB hA hg=> ?_⟩
  exact nums_gcdOf l h63 (by omega) g c w hA hg
 rw[if_neg eGCD] at ht hf ⊢
 by_cases eSQRT:(⟨#[83,81,82,84]⟩:ByteArray)=s
 ·rw[if_pos eSQRT] at ht hf ⊢
  cases ht
  cases hf
  have hl:l.length=1:=by omega
  match l,hl with
  | [a0],_ =>
    have h0:=h63 a0 (by simp)
    refine .inl ⟨_,rfl,rfl,rfl,fun _ _=>rfl,fun w g c hB hA hg=> ?_⟩
    have q0:=hA 0 _ rfl
    exact nums_sqrt a0 h0.to64 g c w q0
 rw[if_neg eSQRT] at ht hf ⊢
 by_cases ePOWER:(⟨#[80,79,87,69,82]⟩:ByteArray)=s
 ·rw[if_pos ePOWER] at ht hf ⊢
  cases ht
  cases hf
  have hl:l.length=2:=by omega
  match l,hl with
  | [a0,a1],_ =>
    have h0:=h63 a0 (by simp)
    have h1:=h63 a1 (by simp)
    refine .inr ⟨_,_,rfl,rfl,rfl,fun _ _=>rfl,fun w g c hB hA hg=> ?_⟩
    have q0:=hA 0 _ rfl
    have q1:=hA 1 _ rfl
    exact places_power2 a0 a1 h0 h1.to64 p3 g c w (cellB_below hk3 hB) q0 q1
 rw[if_neg ePOWER] at ht hf ⊢
 by_cases eQUOT:(⟨#[81,85,79,84]⟩:ByteArray)=s
 ·rw[if_pos eQUOT] at ht hf ⊢
  cases ht
  cases hf
  have hl:l.length=2:=by omega
  match l,hl with
  | [a0,a1],_ =>
    have h0:=h63 a0 (by simp)
    have h1:=h63 a1 (by simp)
    refine .inl ⟨_,rfl,rfl,rfl,fun _ _=>rfl,fun w g c hB hA hg=> ?_⟩
    have q0:=hA 0 _ rfl
    have q1:=hA 1 _ rfl
    exact nums_quot a0 a1 h0 h1 g c w q0 q1
 rw[if_neg eQUOT] at ht hf ⊢
 by_cases eMOD:(⟨#[77,79,68]⟩:ByteArray)=s
 ·rw[if_pos eMOD] at ht hf ⊢
  cases ht
  cases hf
  have hl:l.length=2:=by omega
  match l,hl with
  | [a0,a1],_ =>
    have h0:=h63 a0 (by simp)
    have h1:=h63 a1 (by simp)
    refine .inl ⟨_,rfl,rfl,rfl,fun _ _=>rfl,fun w g c hB hA hg=> ?_⟩
    have q0:=hA 0 _ rfl
    have q1:=hA 1 _ rfl
    exact nums_mod a0 a1 h0.to64 h1.to64 g c w q0 q1
 rw[if_neg eMOD] at ht hf ⊢
 by_cases eCEIL:(⟨#[67,69,73,76]⟩:ByteArray)=s
 ·rw[if_pos eCEIL] at ht hf ⊢
  cases ht
  cases hf
  have hl:l.length=2:=by omega
  match l,hl with
  | [a0,a1],_ =>
    have h0:=h63 a0 (by simp)
    have h1:=h63 a1 (by simp)
    refine .inl ⟨_,rfl,rfl,rfl,fun _ _=>rfl,fun w g c hB hA hg=> ?_⟩
    have q0:=hA 0 _ rfl
    have q1:=hA 1 _ rfl
    exact nums_ceil a0 a1 h0 h1.to64 g c w q0 q1
 rw[if_neg eCEIL] at ht hf ⊢
 by_cases eFLOOR:(⟨#[70,76,79,79,82]⟩:ByteArray)=s
 ·rw[if_pos eFLOOR] at ht hf ⊢
  cases ht
  cases hf
  have hl:l.length=2:=by omega
  match l,hl with
  | [a0,a1],_ =>
    have h0:=h63 a0 (by simp)
    have h1:=h63 a1 (by simp)
    refine .inl ⟨_,rfl,rfl,rfl,fun _ _=>rfl,fun w g c hB hA hg=> ?_⟩
    have q0:=hA 0 _ rfl
    have q1:=hA 1 _ rfl
    exact nums_floorF a0 a1 h0.to64 h1.to64 g c w q0 q1
 rw[if_neg eFLOOR] at ht hf ⊢
 by_cases eROUND:(⟨#[82,79,85,78,68]⟩:ByteArray)=s
 ·rw[if_pos eROUND] at ht hf ⊢
  cases ht
  cases hf
  have hl:l.length=1∨l.length=2:=by omega
  rcases hl with hl|hl
  ·match l,hl with
   | [a0],_ =>
     have h0:=h63 a0 (by simp)
     refine .inr ⟨_,_,rfl,rfl,rfl,fun _ _=>rfl,fun w g c hB hA hg=> ?_⟩
     have q0:=hA 0 _ rfl
     exact places_round1 a0 h0 p2 g c w (cellB_below hk2 hB) q0
  ·match l,hl with
   | [a0,a1],_ =>
     have h0:=h63 a0 (by simp)
     have h1:=h63 a1 (by simp)
     refine .inr ⟨_,_,rfl,rfl,rfl,fun _ _=>rfl,fun w g c hB hA hg=> ?_⟩
     have q0:=hA 0 _ rfl
     have q1:=hA 1 _ rfl
     exact places_round2 a0 a1 h0 h1.to64 p2 g c w (cellB_below hk2 hB) q0 q1
 rw[if_neg eROUND] at ht hf ⊢
 by_cases eTRUNC:(⟨#[84,82,85,78,67]⟩:ByteArray)=s
 ·rw[if_pos eTRUNC] at ht hf ⊢
  cases ht
  cases hf
  have hl:l.length=1∨l.length=2:=by omega
  rcases hl with hl|hl
  ·match l,hl with
   | [a0],_ =>
     have h0:=h63 a0 (by simp)
     refine .inr ⟨_,_,rfl,rfl,rfl,fun _ _=>rfl,fun w g c hB hA hg=> ?_⟩
     have q0:=hA 0 _ rfl
     exact places_trunc1 a0 h0 p1 g c w (cellB_below hk1 hB) q0
  ·match l,hl with
   | [a0,a1],_ =>
     have h0:=h63 a0 (by simp)
     have h1:=h63 a1 (by simp)
     refine .inr ⟨_,_,rfl,rfl,rfl,fun _ _=>rfl,fun w g c hB hA hg=> ?_⟩
     have q0:=hA 0 _ rfl
     have q1:=hA 1 _ rfl
     exact places_trunc2 a0 a1 h0 h1.to64 p1 g c w (cellB_below hk1 hB) q0 q1
 rw[if_neg eTRUNC] at ht hf ⊢
 by_cases eINT:(⟨#[73,78,84]⟩:ByteArray)=s
 ·rw[if_pos eINT] at ht hf ⊢
  cases ht
  cases hf
  have hl:l.length=1:=by omega
  match l,hl with
  | [a0],_ =>
    have h0:=h63 a0 (by simp)
    refine .inl ⟨_,rfl,rfl,rfl,fun _ _=>rfl,fun w g c hB hA hg=> ?_⟩
    have q0:=hA 0 _ rfl
    exact nums_int a0 h0.to64 g c w q0
 rw[if_neg eINT] at ht hf ⊢
 by_cases eSIGN:(⟨#[83,73,71,78]⟩:ByteArray)=s
 ·rw[if_pos eSIGN] at ht hf ⊢
  cases ht
  cases hf
  have hl:l.length=1:=by omega
  match l,hl with
  | [a0],_ =>
    have h0:=h63 a0 (by simp)
    refine .inl ⟨_,rfl,rfl,rfl,fun _ _=>rfl,fun w g c hB hA hg=> ?_⟩
    have q0:=hA 0 _ rfl
    exact nums_sign a0 g c w q0
 rw[if_neg eSIGN] at ht hf ⊢
 by_cases eABS:(⟨#[65,66,83]⟩:ByteArray)=s
 ·rw[if_pos eABS] at ht hf ⊢
  cases ht
  cases hf
  have hl:l.length=1:=by omega
  match l,hl with
  | [a0],_ =>
    have h0:=h63 a0 (by simp)
    refine .inl ⟨_,rfl,rfl,rfl,fun _ _=>rfl,fun w g c hB hA hg=> ?_⟩
    have q0:=hA 0 _ rfl
    exact nums_abs a0 h0 g c w q0
 rw[if_neg eABS] at ht hf ⊢
 cases ht
end Go.Proofs.YtppghgnhlgoagaaGreatDoor
