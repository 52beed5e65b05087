/- Parts. -/
import Derived.Test.YtppghgnhlgoagaaGreatDoorG34
import Derived.Test.YtppghgnhlgoagaaGreatDoorG32
import Derived.Test.YtppghgnhlgoagaaGreatDoorG33
import Derived.Shelf.SlIterI.Sorted
import Derived.Ground.GgzProg
set_option linter.all false
set_option maxRecDepth 100000
set_option maxHeartbeats 4000000
namespace Go.Proofs
open Go.Shelf
def Tryz.sort276_ren:Go.Shelf.Ren:=⟨fun|5=>276|8=>305|7=>304|19=>325|20=>102|10=>316|11=>317|12=>318|13=>319|14=>320|15=>321|16=>322|17=>323|18=>324|30=>337|31=>338|32=>339|33=>340|34=>341|35=>109|40=>345|n=>n,fun|23=>201|25=>2|3=>3|32=>161|22=>201|0=>0|44=>70|46=>146|4=>4|36=>337|35=>336|41=>114|5=>5|9=>9|53=>349|57=>353|63=>358|64=>359|n=>n,fun|n=>n⟩
theorem Tryz.sort276:Go.Proofs.SlLaysM.n5 Tryz.prog Tryz.sort276_ren:= {
 mixed:=by kernel_rfl
 f5:=⟨Tryz.f276.name,by decide,Tryz.func276.trans (congrArg some (by kernel_rfl))⟩
 f7:=⟨Tryz.f304.name,by decide,Tryz.func304.trans (congrArg some (by kernel_rfl))⟩
 f8:=Tryz.func305.trans (congrArg some (by kernel_rfl))
 f10:=⟨Tryz.f316.name,by decide,Tryz.func316.trans (congrArg some (by kernel_rfl))⟩
 f11:=⟨Tryz.f317.name,by decide,Tryz.func317.trans (congrArg some (by kernel_rfl))⟩
 f12:=⟨Tryz.f318.name,by decide,Tryz.func318.trans (congrArg some (by kernel_rfl))⟩
 f13:=⟨Tryz.f319.name,by decide,Tryz.func319.trans (congrArg some (by kernel_rfl))⟩
 f14:=⟨Tryz.f320.name,by decide,Tryz.func320.trans (congrArg some (by kernel_rfl))⟩
 f15:=⟨Tryz.f321.name,by decide,Tryz.func321.trans (congrArg some (by kernel_rfl))⟩
 f16:=⟨Tryz.f322.name,by decide,Tryz.func322.trans (congrArg some (by kernel_rfl))⟩
 f17:=⟨Tryz.f323.name,by decide,Tryz.func323.trans (congrArg some (by kernel_rfl))⟩
 f18:=⟨Tryz.f324.name,by decide,Tryz.func324.trans (congrArg some (by kernel_rfl))⟩
 f19:=Tryz.func325.trans (congrArg some (by kernel_rfl))
 f20:=Tryz.func102.trans (congrArg some (by kernel_rfl))
 f30:=⟨Tryz.f337.name,by decide,Tryz.func337.trans (congrArg some (by kernel_rfl))⟩
 f31:=Tryz.func338.trans (congrArg some (by kernel_rfl))
 f32:=Tryz.func339.trans (congrArg some (by kernel_rfl))
 f33:=⟨Tryz.f340.name,by decide,Tryz.func340.trans (congrArg some (by kernel_rfl))⟩
 f34:=⟨Tryz.f341.name,by decide,Tryz.func341.trans (congrArg some (by kernel_rfl))⟩
 f35:=⟨Tryz.f109.name,by decide,Tryz.func109.trans (congrArg some (by kernel_rfl))⟩
 f40:=⟨Tryz.f345.name,by decide,Tryz.func345.trans (congrArg some (by kernel_rfl))⟩
 t0:=Tryz.underlying0
 a0:=Tryz.isAgg0
 z0:=Tryz.sizeOf0
 v0:=Tryz.zeroValue0
 t3:=Tryz.underlying3
 a3:=Tryz.isAgg3
 z3:=Tryz.sizeOf3
 v3:=Tryz.zeroValue3
 t4:=Tryz.underlying4
 a4:=Tryz.isAgg4
 z4:=Tryz.sizeOf4
 v4:=Tryz.zeroValue4
 t5:=Tryz.underlying5
 a5:=Tryz.isAgg5
 z5:=Tryz.sizeOf5
 v5:=Tryz.zeroValue5
 t9:=Tryz.underlying9
 a9:=Tryz.isAgg9
 z9:=Tryz.sizeOf9
 v9:=Tryz.zeroValue9
 t22:=Tryz.underlying201
 a22:=Tryz.isAgg201
 z22:=Tryz.sizeOf201
 v22:=Tryz.zeroValue201
 t23:=Tryz.underlying201
 a23:=Tryz.isAgg201
 z23:=Tryz.sizeOf201
 v23:=Tryz.zeroValue201
 t25:=Tryz.underlying2
 a25:=Tryz.isAgg2
 z25:=Tryz.sizeOf2
 v25:=Tryz.zeroValue2
 t32:=Tryz.underlying161
 a32:=Tryz.isAgg161
 z32:=Tryz.sizeOf161
 v32:=Tryz.zeroValue161
 t35:=Tryz.underlying336
 a35:=Tryz.isAgg336
 z35:=Tryz.sizeOf336
 v35:=Tryz.zeroValue336
 t36:=Tryz.underlying337
 a36:=Tryz.isAgg337
 z36:=Tryz.sizeOf337
 v36:=Tryz.zeroValue337
 t41:=Tryz.underlying114
 a41:=Tryz.isAgg114
 z41:=Tryz.sizeOf114
 v41:=Tryz.zeroValue114
 t44:=Tryz.underlying70
 a44:=Tryz.isAgg70
 z44:=Tryz.sizeOf70
 v44:=Tryz.zeroValue70
 t46:=Tryz.underlying146
 a46:=Tryz.isAgg146
 z46:=Tryz.sizeOf146
 v46:=Tryz.zeroValue146
 t53:=Tryz.underlying349
 a53:=Tryz.isAgg349
 z53:=Tryz.sizeOf349
 v53:=Tryz.zeroValue349
 t57:=Tryz.underlying353
 a57:=Tryz.isAgg353
 z57:=Tryz.sizeOf353
 v57:=Tryz.zeroValue353
 t63:=Tryz.underlying358
 a63:=Tryz.isAgg358
 z63:=Tryz.sizeOf358
 v63:=Tryz.zeroValue358
 t64:=Tryz.underlying359
 a64:=Tryz.isAgg359
 z64:=Tryz.sizeOf359
 v64:=Tryz.zeroValue359 }
open Go.RowKit Go.Sort Go.Shelf
end Go.Proofs
namespace Go.Proofs.YtppghgnhlgoagaaGreatDoor
open Go Go.RowKit Go.Shelf
open Go.Lib renaming hid->zh
attribute [local go_sem] Oper.semAt_some
theorem values_call (A:Option Addr) (n c:Nat) (w:World):Calls Tryz.prog 271 #[.slice A n c] w fun e w'=>e=.returned (.func (.func 303) #[] #[.pointer (some ⟨w.heap.size,0,none⟩)])/\w'=w.alloc (.cells #[.slice A n c] 201):=by
 go_enter Tryz.func271,Tryz.ntmps271
 go_wp2
 all_goals go_ret
 all_goals exact⟨rfl,rfl⟩
theorem values_seq (m:Nat) (h1n:1<=m) (bS bW n2:Nat) (hne:bS≠bW) (hn:bS<n2) (l:List Int) (hml:l.length<=1000000000000) (A:Option Addr) (c B:Nat) (hB:B<=n2) (hBW:B<=bW) (w:World) (hn2w:n2<=w.heap.size) (hr:Reads w B 1 A l.length (I l)) (hs:w.cell? ⟨bS,0,none⟩=some (.slice A l.length c)) :
  SeqT Fence.wide m Tryz.prog 303 #[.pointer (some ⟨bS,0,none⟩)] (fun x:Int=>#[.int .i64 x]) (KeptBut bW n2) (fun xs=>xs=l) l.length w:=by
 intro lp J W hW hJ hY h0
 have c1:=(hW.cell (p:=⟨bS,0,none⟩) (show bS<w.heap.size by omega)).trans hs
 have hWs:=hW.size
 have HR:=zh (show Reads W B 1 A l.length (I l) from hr.below (hW.mono (by omega)))
 clear hr
 refine callsIn_of_wp Tryz.func303 rfl trivial ?_ rfl
 simp only[Tryz.ntmps303,List.size_toArray,List.length_cons,List.length_nil,Nat.reduceAdd,Nat.reduceSub,Array.replicate_succ,Array.replicate_zero,List.push_toArray,List.append_toArray,List.nil_append,List.cons_append]
 gi_wp2
 gi_loopw [7] (fun t wr=>∃ (j:Nat),j<=l.length/\t=.int .i64 j/\J (l.take j) wr/\KeptBut bW n2 W wr) (fun t _=>l.length-(intOf t).toNat)
 case atStart=>exact⟨0,Nat.zero_le _,rfl,h0,Nat.le_refl _,fun _ _ _=>rfl⟩
 case round =>
  obtain⟨j,hj,rfl,hJs,hK⟩:=hrel
  by_cases hlt:j<l.length
  ·obtain⟨x,hx⟩:∃ x,l[j]? =some x:=⟨_,List.getElem?_eq_getElem hlt⟩
   obtain⟨bk,off,rfl,hbB,hc⟩:=HR.out.2 (by omega)
   have c0:wr.cell? ⟨bk,off+j,none⟩=some (.int .i64 x):=hK.cell (by omega) (by omega) (hc j (.int .i64 x) (by simp[I,hx]))
   obtain⟨fn,tmps,assign,body,hy,hR⟩:=hY (l.take j) x wr hJs (by rw[List.length_take];omega)
   have HX:=zh hx
   have HKK:=zh hK
   clear hx hc hK
   gi_wp2
   refine hR.mono ?_
   rintro e W2 ⟨rfl,hJ2,hk2⟩
   gi_wp2
   go_roundw
   case rel=>exact⟨j+1,by omega,by go_num,by rw[zAn HX.out];exact hJ2,Nat.le_trans HKK.out.1 hk2.1,fun k h1 h2=>(hk2.2 k h1 h2).trans (HKK.out.2 k h1 h2)⟩
   case measure=>simp[intOf];omega
  ·obtain rfl:j=l.length:=by omega
   rw[List.take_of_length_le (Nat.le_refl _)] at hJs
   gi_wp2
   go_end0
   exact⟨⟨_,rfl⟩,l,rfl,hJs⟩
theorem append_seq (l:List Int) (hml:l.length<=1000000000000) (A:Option Addr) (c bS:Nat) (w:World) (hr:Reads w w.heap.size 1 A l.length (I l)) (hs:w.cell? ⟨bS,0,none⟩=some (.slice A l.length c)) (hbS:bS<w.heap.size) :
  Calls Tryz.prog 315 #[.slice none 0 0,.func (.func 303) #[] #[.pointer (some ⟨bS,0,none⟩)]] w fun e w'=>∃ v,e=.returned v/\w'.ownsRow w.heap.size 2 1 v l.length (I l)/\Below w.heap.size w w':=by
 obtain⟨i0,hi,hz0,hz1,hz2⟩:=info_parts info_I
 refine(callsIn_wide (n:=4)).1 ?_
 refine callsIn_of_wp_marks Tryz.func315 rfl trivial ?_ rfl
 simp only[Tryz.ntmps315,List.size_toArray,List.length_cons,List.length_nil,Nat.reduceAdd,Nat.reduceSub,Array.replicate_succ,Array.replicate_zero,List.push_toArray,List.append_toArray,List.nil_append,List.cons_append]
 gi_wp2
 obtain⟨W0,hW0⟩:∃ W0,w.alloc (.cells #[.slice none 0 0] 201)=W0:=⟨_,rfl⟩
 have hsz:W0.heap.size=w.heap.size+1:=by rw[<- hW0];simp
 have hB0:Below w.heap.size w W0:=by rw[<- hW0];exact bel
 have bW:Boxed W0 w.heap.size 201 (.slice none 0 0):=by rw[<- hW0];exact Boxed.new w _ _
 have k1:W0.cell? ⟨bS,0,none⟩=some (.slice A l.length c):=cell_below hs hB0
 have hseq:=values_seq 3 (by decide) bS w.heap.size (w.heap.size+1) (by omega) (by omega) l hml A c w.heap.size (by omega) (by omega) W0 (by omega) (hr.below hB0) k1
 rw[hW0]
 refine range_ownT rfl (by decide) (gf:=303) (lb:=#[.pointer (some ⟨bS,0,none⟩)]) rfl trivial (enters_of Tryz.func303 (by kernel_rfl) rfl) hseq ?kt ?kb (fun _=>rfl)
  (fun pre W=>(∃ v,Boxed W w.heap.size 201 v/\W.ownsRow W0.heap.size 2 1 v pre.length (I pre))/\Below w.heap.size w W/\W0.heap.size<=W.heap.size) ?own ?start
  (fun x=> { tmps:=#[.slice none 0 0,.func (.func 303) #[] #[.pointer (some ⟨bS,0,none⟩)],.pointer (some ⟨w.heap.size,0,none⟩),undef,.slice none 0 0,.int .i64 x,.func (.func 303) #[] #[.pointer (some ⟨bS,0,none⟩)],.int .i64 x,undef,undef,undef,undef,undef],defers:=[] }) ?assign ?body ?done
 case kt=>exact fun h k=>⟨Nat.le_trans h.1 k.1,fun j hj h2=>(k.2 j hj h2).trans (h.2 j hj h2)⟩
 case kb=>exact fun W l o' hl=>⟨by simp[World.putObj],fun j _ h2=>World.putObj_heap_other (by omega)⟩
 case own =>
  rintro pre A B row ⟨⟨v,hv,hr⟩,hb,hsz2⟩ hg hrow
  refine⟨⟨v,hv.kept hg (fun e=> ?_),hr.kept hg ?_⟩,hb.grown hg (by have:=hb.size;omega) (fun k e=> ?_),by have:=hg.size;omega⟩
  ·have h:=hrow _ e.symm
   omega
  ·rcases hr.2 with ⟨rfl,_⟩|⟨g,cap,cur,rfl,hge,hgb,_⟩
   ·exact .inl rfl
   ·refine .inr fun e'=> ?_
    obtain⟨_,o,ho,hc⟩:=hrow g e'.symm
    rw[hgb] at ho
    cases ho
    cases hc
  ·have h:=hrow _ e
   omega
 case start=>exact⟨⟨_,bW,World.ownsRow_nil _ _ _ _⟩,hB0,Nat.le_refl _⟩
 case assign =>
  intro l x W K hK
  gi_wp2
  exact hK
 case body =>
  rintro lp pre x W ⟨⟨v,hv,hrow⟩,hB,hsz2⟩ hlt
  have hc:=hv.cell
  have hml:maxLen=9223372036854775807:=by decide
  gi_wp2_with (gi_at_builtin;refine wpListIn_append_own _ rfl _ _ 201 rfl W0.heap.size 2 i0 (.int .i64 0) 1 8 Tryz.underlying201 hi hz0 hz1 hz2 rfl (by decide) _ _ _ rfl (hrow.alloc _) ⟨W.heap.size,0,none⟩ 1 1 [.int .i64 x] rfl rfl (cell_one_new _ _ _) (by simp[Value.oneCell']) (by omega) (by omega) (by simp;omega) ?_;intro v' w1 hown' hgrow _;obtain⟨g',cap',rfl⟩:=ownsRow_succ hown';obtain⟨hv1,hv2,hr2,hk2,hb2,hkb⟩:=box_appended (b0:=w.heap.size) hv (by decide) hrow hsz2 (Nat.le_refl _) (by omega) hown' hgrow;have hc1:=hv1.cell;have hf1:=hv1.frozen)
  exact⟨hk2,⟨hkb.1,fun j hj h3=>hkb.2 j hj (by omega)⟩,⟨_,hv2,by simpa [I] using hr2⟩,hB.trans hb2,by have:=hkb.1;omega⟩
 case done =>
  rintro D ys W hD rfl ⟨⟨v,hv,hrow⟩,hB,hsz2⟩ hK
  have hc:=hv.cell
  gi_wp2_with (refine⟨trivial,?_⟩)
  refine⟨by simp,.inl ⟨_,_,rfl,run_takeDeferred hK,?_⟩⟩
  refine⟨_,results_tmp rfl _ _ _,v,rfl,?_,?_⟩
  ·refine own_base (hrow.kept (grownBy_putObj' W D _) ?_) (by omega)
   rcases hrow.2 with ⟨rfl,_⟩|⟨g,cap,cur,rfl,hge,hgb,_⟩
   ·exact .inl rfl
   ·refine .inr fun e'=> ?_
    have e2:g=D:=by simpa [Value.ownBlock] using e'
    subst e2
    rw[hgb] at hK
    cases hK
  ·exact hB.trans (belowK_b (w:=w) (Nat.le_refl _) W D _ _ (by omega) hK rfl rfl)
theorem collect_call (l:List Int) (hml:l.length<=1000000000000) (A:Option Addr) (c bS:Nat) (w:World) (hr:Reads w w.heap.size 1 A l.length (I l)) (hs:w.cell? ⟨bS,0,none⟩=some (.slice A l.length c)) (hbS:bS<w.heap.size) :
  Calls Tryz.prog 302 #[.func (.func 303) #[] #[.pointer (some ⟨bS,0,none⟩)]] w fun e w'=>∃ A' c',e=.returned (.slice A' l.length c')/\w'.ownsRow w.heap.size 2 1 (.slice A' l.length c') l.length (I l)/\Below w.heap.size w w':=by
 have HA:=zh (append_seq l hml A c bS w hr hs hbS)
 obtain⟨n,hn⟩:∃ n,n=l.length:=⟨_,rfl⟩
 rw[<- hn] at HA ⊢
 clear hr hs hml hn
 go_enter Tryz.func302,Tryz.ntmps302
 go_wp2_with(go_at_call 315;refine HA.out.mono ?_;rintro e w1 ⟨v,rfl,ho,hb⟩;obtain⟨A',c',rfl⟩:=zAK ho;have HO:=zh ho;have HB:=zh hb;clear ho hb)
 all_goals go_ret
 all_goals exact⟨_,_,rfl,HO.out,HB.out⟩
def sortG (l:List Int):List Int:=l.mergeSort fun x y=>decide (x<=y)
theorem sortG_length (l:List Int):(sortG l).length=l.length:=List.length_mergeSort _
theorem sortG_mem (l:List Int) (x:Int):x∈sortG l ↔ x∈l:=List.mem_mergeSort
theorem sort_own (l:List Int) (hml:l.length<=1000000000000) (A:Option Addr) (c base b0:Nat) (w0 w:World) (h0:Below b0 w0 w) (hb0:b0<=base) (hsz:b0<=w0.heap.size) (ho:w.ownsRow base 2 1 (.slice A l.length c) l.length (I l)) :
  Calls Tryz.prog 276 #[.slice A l.length c] w fun e w'=>e=.returned (.tuple #[])/\w'.ownsRow base 2 1 (.slice A l.length c) l.length (I (sortG l))/\Below b0 w0 w':=by
 rcases ho.2 with ⟨h1,hz⟩|⟨gb,cap,cur,h1,hbase,hgb,r1,r2,r3,r4⟩
 ·have hl:l=[]:=List.eq_nil_of_length_eq_zero hz
  subst hl
  refine(AnyM.slices_Sort_int_none Tryz.sort276 A c w).mono ?_
  rintro e w' ⟨rfl,rfl⟩
  exact⟨rfl,by rw[show sortG []=[] from by simp[sortG]];exact ho,h0⟩
 ·injection h1 with h1 h2 h3
  subst h1 h3
  have hH:Go.Sort.Holds encZ w gb 0 l.toArray:=holds_of_block_i hgb (by simpa [I] using r4)
  have hgl:gb<w.heap.size:=(Array.getElem?_eq_some_iff.1 hgb).1
  refine(AnyM.slices_Sort_int Tryz.sort276 gb 0 c l w hH hgl (by omega)).mono ?_
  rintro e w' ⟨rfl,nn,os,rfl⟩
  have hs:=ownsRow_sorted_i (n:=nn) (os:=os) (ss:=l) (ts:=sortG l) (sortG_length l) hbase hgb r1 r2 r3
  exact⟨rfl,hs,h0.grown (grownBy_sorted_i _) (Nat.le_trans hsz h0.size) (fun j hj=>by cases hj;omega)⟩
theorem sorted_call (l:List Int) (hml:l.length<=1000000000000) (A:Option Addr) (c bS:Nat) (w:World) (hr:Reads w w.heap.size 1 A l.length (I l)) (hs:w.cell? ⟨bS,0,none⟩=some (.slice A l.length c)) (hbS:bS<w.heap.size) :
  Calls Tryz.prog 270 #[.func (.func 303) #[] #[.pointer (some ⟨bS,0,none⟩)]] w fun e w'=>∃ A' c',e=.returned (.slice A' l.length c')/\w'.ownsRow w.heap.size 2 1 (.slice A' l.length c') l.length (I (sortG l))/\Below w.heap.size w w':=by
 have HA:=zh (collect_call l hml A c bS w hr hs hbS)
 have HS:=zh (fun A c w' h0 ho=>sort_own l hml A c w.heap.size w.heap.size w w' h0 (Nat.le_refl _) (Nat.le_refl _) ho)
 obtain⟨n,hn⟩:∃ n,n=l.length:=⟨_,rfl⟩
 rw[<- hn] at HA HS ⊢
 clear hr hs hml hn
 go_enter Tryz.func270,Tryz.ntmps270
 go_wp2_with(first|(go_at_call 302;refine HA.out.mono ?_;rintro e w1 ⟨A',c',rfl,ho,hb⟩;have HO:=zh ho;have HB:=zh hb;clear ho hb)|(go_at_call 276;refine(HS.out _ _ _ HB.out HO.out).mono ?_;rintro e w2 ⟨rfl,ho,hb⟩;have HO2:=zh ho;have HB2:=zh hb;clear ho hb))
 all_goals go_ret
 all_goals exact⟨_,_,rfl,HO2.out,HB2.out⟩
theorem own_cap {w:World} {base e size n c:Nat} {A:Option Addr} {xs:List Value} (h:w.ownsRow base e size (.slice A n c) n xs) (hn:0<n):n<=c:=by
 rcases h.2 with ⟨_,h2⟩|⟨g,cap,cur,e1,hg,hh,h1,_⟩
 ·omega
 ·injection e1 with _ _ e3
  omega
def medianG (l:List Int):Int:=if l.length % 2=1 then (sortG l).getD (l.length / 2) 0 else meanG (((sortG l).drop (l.length / 2-1)).take 2)
theorem Reads.cut {w:World} {B:Nat} {A:Option Addr} {l:List Int} {n:Nat} (h:Reads w B 1 A n (I l)) {i m:Nat} (hm:0<m) (him:i+m<=n):∃ b off,A=some ⟨b,off,none⟩/\Reads w B 1 (some ⟨b,off+i,none⟩) m (I ((l.drop i).take m)):=by
 have h1:=h.1
 obtain⟨b,off,rfl,hb,hc⟩:=h.2 (by omega)
 refine⟨b,off,rfl,?_,fun _=>⟨b,off+i,rfl,hb,fun j u hu=> ?_⟩⟩
 ·simp[I] at h1 ⊢
  omega
 ·have:=hc (i+j) u (by
   simp only[I,List.map_take,List.map_drop] at hu ⊢
   have hj:j<m:=by
    have:=(List.getElem?_eq_some_iff.1 hu).1
    rw[List.length_take] at this
    omega
   rw[List.getElem?_take_of_lt hj,List.getElem?_drop] at hu
   exact hu)
  rw[show off+i+j=off+(i+j) by omega]
  exact this
theorem aggs_median (l:List Int) (A:Option Addr) (c:Nat) (w:World) (hr:Reads w w.heap.size 1 A l.length (I l)) (hn:0<l.length) (hml:l.length<=1000000000000) (h63:∀ x∈l,In63 x) :
  Rt 209 #[.slice A l.length c] w (.int .i64 (medianG l)):=by
 have HS:=zh (fun bS W (hb:Below w.heap.size w W) hs hbS=>sorted_call l hml A c bS W ((hr.below hb).lift hb.size) hs hbS)
 obtain⟨s,hs⟩:∃ s,sortG l=s:=⟨_,rfl⟩
 have hs63:∀ x∈s,In63 x:=fun x hx=>h63 x ((sortG_mem l x).1 (by rw[hs];exact hx))
 have hsl:s.length=l.length:=by rw[<- hs];exact sortG_length l
 unfold medianG
 rw[hs] at HS ⊢
 obtain⟨n,hn2⟩:∃ n,n=l.length:=⟨_,rfl⟩
 rw[<- hn2] at HS hsl hn hml ⊢
 clear hr h63 hs hn2
 obtain⟨k,hk⟩:∃ k,k=n / 2:=⟨_,rfl⟩
 have hq:(n:Int) / 2=(k:Int):=by omega
 rw[<- hk]
 have hkn:k<n:=by omega
 by_cases hodd:n % 2=1
 ·rw[if_pos hodd]
  have hm2:(n:Int) % 2=1:=by omega
  have hI:(I s)[k]? =some (.int .i64 (s.getD k 0)):=by
   rw[List.getD_eq_getElem?_getD]
   simp[I,List.getElem?_eq_getElem (show k<s.length by omega)]
  obtain⟨r,hr⟩:∃ r,s.getD k 0=r:=⟨_,rfl⟩
  rw[hr] at hI ⊢
  have HI:=zh hI
  clear hodd hk hI hr
  go_enter Tryz.func209,Tryz.ntmps209
  go_wp2_with(first|(go_at_call 271;refine(values_call _ _ _ _).mono ?_;rintro e w1 ⟨rfl,rfl⟩)|(go_at_call 270;refine(HS.out _ _ bel (by go_simp) (by simp)).mono ?_;rintro e w2 ⟨A',c',rfl,ho,hb⟩;obtain⟨g,c2,e2,hgb,hg,hx⟩:=own_form ho hn;injection e2 with e3 _ e5;subst e3 e5;have c0:=hx k _ HI.out;have HB:=zh hb;clear ho hb hx))
  all_goals go_ret
  all_goals exact⟨rfl,HB.out.mono (by simp) |> (show Below w.heap.size w _ from bel).trans⟩
 ·rw[if_neg hodd]
  have hm2:(n:Int) % 2=0:=by omega
  have hk1:1<=k:=by omega
  obtain⟨i,rfl⟩:∃ i,k=i+1:=⟨k-1,by omega⟩
  rw[show i+1-1=i by omega]
  have HM:=zh (fun W A' B' (h:Reads W B' 1 A' 2 (I ((s.drop i).take 2))) c'=>aggs_mean ((s.drop i).take 2) A' 2 c' B' W h (by decide) (by decide) (fun x hx=>hs63 x (List.mem_of_mem_drop (List.mem_of_mem_take hx))))
  obtain⟨r,hr⟩:∃ r,meanG ((s.drop i).take 2)=r:=⟨_,rfl⟩
  rw[hr] at HM ⊢
  clear hodd hk hr
  go_enter Tryz.func209,Tryz.ntmps209
  go_wp2_with(first|(go_at_call 271;refine(values_call _ _ _ _).mono ?_;rintro e w1 ⟨rfl,rfl⟩)|(go_at_call 270;refine(HS.out _ _ bel (by go_simp) (by simp)).mono ?_;rintro e w2 ⟨A',c',rfl,ho,hb⟩;have hcap:=own_cap ho hn;obtain⟨g,c2,e2,hgb,hg,hx⟩:=own_form ho hn;injection e2 with e3 _ e5;subst e3 e5;have HO:=zh ho;have HB:=zh hb;clear ho hb hx))
  rw[show i+1+1-i=2 by omega]
  obtain⟨b',off',e',hR'⟩:=Reads.cut (Reads.zB5 HO.out) (i:=i) (m:=2) (by decide) (by omega)
  cases e'
  rw[Nat.zero_add] at hR'
  refine Calls.mono (HM.out _ _ _ hR' _) ?_
  rintro e w3 ⟨rfl,hb⟩
  have HB2:=zh hb
  clear hb hR'
  go_wp2
  all_goals go_ret
  all_goals exact⟨rfl,((show Below w.heap.size w _ from bel).trans (HB.out.mono (by simp))).trans (HB2.out.mono (by have:=HB.out.size;simp at this;omega))⟩
end Go.Proofs.YtppghgnhlgoagaaGreatDoor
namespace Go.Proofs.YtppghgnhlgoagaaGreatDoor
open Go Go.RowKit
open Go.Lib renaming hid->zh
def largeG (p:Arg×List En) (v1:V):V :=
 if (intG v1).2≠0 then errG (intG v1).2 else if (zAA (zA4 [p])).2.tag=4 then (zAA (zA4 [p])).2
 else if (intG v1).1<1 then errG 5 else if ((zAA (zA4 [p])).1.length:Int)<(intG v1).1 then errG 5
 else numG ((sortG (zAA (zA4 [p])).1).getD ((zAA (zA4 [p])).1.length-(intG v1).1.toNat) 0)
theorem aggs_LARGE (a0 a1:Arg) (es:List En) (b off c:Nat) (tx:Int) (w:World) (hc1:∀ i u,a1.cells[i]? =some u->w.cell? ⟨b,off+11+i,none⟩=some u) (hP:ArgsAt w [(a0,es)] (some ⟨b,off,none⟩) 1) (hcap:2<=c) (h1:Is64 a1.val.num) :
  Rt 219 #[.slice (some ⟨b,off,none⟩) 2 c,.int .i64 tx] w (vG (largeG (a0,es) a1.val)):=by
 have HI:=zh (fun W (hb:Below w.heap.size w W) c'=>aggs_items [(a0,es)] (some ⟨b,off,none⟩) 1 c' W.heap.size W (hP.below hb).hr (hP.below hb).hE hP.hT hP.hm hP.hnn)
 have HA:=zh (fun A' c' B' W (h:Reads W B' 5 A' (zA4 [(a0,es)]).length (flat (zA4 [(a0,es)])))=>aggs_among (zA4 [(a0,es)]) A' (zA4 [(a0,es)]).length c' B' W h hP.hT)
 have HI1:=zh (aggs_integer a1.val h1)
 have hT:=hP.hT
 have hal:=among_le (zA4 [(a0,es)])
 have d1:=hc1 1 _ rfl
 have d2:=hc1 2 _ rfl
 have d3:=hc1 3 _ rfl
 have d4:=hc1 4 _ rfl
 have d5:=hc1 5 _ rfl
 have hb:=cltK d1
 have hb1:b<w.heap.size+1:=by omega
 unfold largeG
 obtain⟨us,hL⟩:∃ us,zA4 [(a0,es)]=us:=⟨_,rfl⟩
 rw[hL] at HI HA hT hal
 rw[hL]
 obtain⟨ls,hls⟩:∃ ls,(zAA us).1=ls:=⟨_,rfl⟩
 obtain⟨f,hf0⟩:∃ f,(zAA us).2=f:=⟨_,rfl⟩
 simp only[hls,hf0] at HA hal ⊢
 obtain⟨k,hk⟩:∃ k,(intG a1.val).1=k:=⟨_,rfl⟩
 obtain⟨ck,hck⟩:∃ ck,(intG a1.val).2=ck:=⟨_,rfl⟩
 rw[hk,hck] at HI1
 rw[hk,hck]
 clear hc1 hP h1 hL hls hf0 hk hck
 by_cases h1:ck=0
 ·subst h1
  rw[if_neg (by simp)]
  by_cases h4:f.tag=4
  ·have h4':(f.tag==4)=true:=by simp[h4]
   rw[if_pos h4]
   clear h4
   go_enter Tryz.func219,Tryz.ntmps219
   go_wp2_with(first|(go_at_call_of 275 (Value.agg #[Value.int .i64 (a1.val).tag,Value.int .i64 (a1.val).num,Value.string (a1.val).str,Value.bool (a1.val).is,Value.int .i64 (a1.val).code]);refine mB (HI1.out _) ?_;intro m1 r1)|(go_at_call 266;refine(HI.out _ bel _).mono ?_;rintro e w1 ⟨v,rfl,ho,hb⟩;obtain⟨Ai,ci,rfl⟩:=zAK ho;obtain⟨l1,q1,rfl⟩:=zA0 hb;clear hb;(try simp only[zAO,List.append_assoc] at ho);have HO:=zh ho;clear ho)|(go_at_call 265;refine(HA.out _ _ _ _ (Reads.zB5 HO.out)).mono ?_;rintro e w2 ⟨v,rfl,ho2,hb⟩;obtain⟨Aj,cj,rfl⟩:=zAK ho2;obtain⟨l2,q2,rfl⟩:=zA0 hb;clear hb;simp only[zAO,List.append_assoc] at ho2;have HO2:=zh ho2;clear ho2))
   all_goals go_returns
   all_goals exact⟨rfl,bel⟩
  ·have h4':(f.tag==4)=false:=by simp[h4]
   rw[if_neg h4]
   by_cases g1:k<1
   ·have g1':(decide (k<1))=true:=decide_eq_true g1
    rw[if_pos g1]
    clear g1 h4
    go_enter Tryz.func219,Tryz.ntmps219
    go_wp2_with(first|(go_at_call_of 275 (Value.agg #[Value.int .i64 (a1.val).tag,Value.int .i64 (a1.val).num,Value.string (a1.val).str,Value.bool (a1.val).is,Value.int .i64 (a1.val).code]);refine mB (HI1.out _) ?_;intro m1 r1)|(go_at_call 266;refine(HI.out _ bel _).mono ?_;rintro e w1 ⟨v,rfl,ho,hb⟩;obtain⟨Ai,ci,rfl⟩:=zAK ho;obtain⟨l1,q1,rfl⟩:=zA0 hb;clear hb;(try simp only[zAO,List.append_assoc] at ho);have HO:=zh ho;clear ho)|(go_at_call 265;refine(HA.out _ _ _ _ (Reads.zB5 HO.out)).mono ?_;rintro e w2 ⟨v,rfl,ho2,hb⟩;obtain⟨Aj,cj,rfl⟩:=zAK ho2;obtain⟨l2,q2,rfl⟩:=zA0 hb;clear hb;simp only[zAO,List.append_assoc] at ho2;have HO2:=zh ho2;clear ho2)|(go_at_call 21;refine mB (zA3 _ _) ?_;intro l3 q3))
    all_goals go_returns
    all_goals exact⟨rfl,bel⟩
   ·have g1':(decide (k<1))=false:=decide_eq_false g1
    rw[if_neg g1]
    by_cases g2:(ls.length:Int)<k
    ·have g2':(decide ((ls.length:Int)<k))=true:=decide_eq_true g2
     rw[if_pos g2]
     clear g1 g2 h4
     go_enter Tryz.func219,Tryz.ntmps219
     go_wp2_with(first|(go_at_call_of 275 (Value.agg #[Value.int .i64 (a1.val).tag,Value.int .i64 (a1.val).num,Value.string (a1.val).str,Value.bool (a1.val).is,Value.int .i64 (a1.val).code]);refine mB (HI1.out _) ?_;intro m1 r1)|(go_at_call 266;refine(HI.out _ bel _).mono ?_;rintro e w1 ⟨v,rfl,ho,hb⟩;obtain⟨Ai,ci,rfl⟩:=zAK ho;obtain⟨l1,q1,rfl⟩:=zA0 hb;clear hb;(try simp only[zAO,List.append_assoc] at ho);have HO:=zh ho;clear ho)|(go_at_call 265;refine(HA.out _ _ _ _ (Reads.zB5 HO.out)).mono ?_;rintro e w2 ⟨v,rfl,ho2,hb⟩;obtain⟨Aj,cj,rfl⟩:=zAK ho2;obtain⟨l2,q2,rfl⟩:=zA0 hb;clear hb;simp only[zAO,List.append_assoc] at ho2;have HO2:=zh ho2;clear ho2)|(go_at_call 21;refine mB (zA3 _ _) ?_;intro l3 q3))
     all_goals go_returns
     all_goals exact⟨rfl,bel⟩
    ·have g2':(decide ((ls.length:Int)<k))=false:=decide_eq_false g2
     rw[if_neg g2]
     have HS:=zh (fun A c base W h0 hb0 ho=>sort_own ls (by omega) A c base (w.alloc zObj).heap.size (w.alloc zObj) W h0 hb0 (Nat.le_refl _) ho)
     obtain⟨sl,hsl⟩:∃ sl,sortG ls=sl:=⟨_,rfl⟩
     have hsn:sl.length=ls.length:=by rw[<- hsl];exact sortG_length ls
     rw[hsl] at HS ⊢
     obtain⟨n,hn⟩:∃ n,ls.length=n:=⟨_,rfl⟩
     rw[hn] at HS HA hal hsn g2 g2' ⊢
     obtain⟨i0,hi0⟩:∃ i0,i0=n-k.toNat:=⟨_,rfl⟩
     rw[<- hi0]
     have hin:i0<n:=by omega
     have hn0:0<n:=by omega
     have s1:wrap64 ((n:Int)-k)=(i0:Int):=by rw[wr64]<;>omega
     have hI:(I sl)[i0]? =some (.int .i64 (sl.getD i0 0)):=by
      rw[List.getD_eq_getElem?_getD]
      simp[I,List.getElem?_eq_getElem (show i0<sl.length by omega)]
     obtain⟨r,hr⟩:∃ r,sl.getD i0 0=r:=⟨_,rfl⟩
     rw[hr] at hI ⊢
     have HIX:=zh hI
     clear g1 g2 h4 hsl hn hi0 hsn hI hr hal
     go_enter Tryz.func219,Tryz.ntmps219
     go_wp2_with(first|(go_at_call_of 275 (Value.agg #[Value.int .i64 (a1.val).tag,Value.int .i64 (a1.val).num,Value.string (a1.val).str,Value.bool (a1.val).is,Value.int .i64 (a1.val).code]);refine mB (HI1.out _) ?_;intro m1 r1)|(go_at_call 266;refine(HI.out _ bel _).mono ?_;rintro e w1 ⟨v,rfl,ho,hb⟩;obtain⟨Ai,ci,rfl⟩:=zAK ho;obtain⟨l1,q1,rfl⟩:=zA0 hb;clear hb;(try simp only[zAO,List.append_assoc] at ho);have HO:=zh ho;clear ho)|(go_at_call 265;refine(HA.out _ _ _ _ (Reads.zB5 HO.out)).mono ?_;rintro e w2 ⟨v,rfl,ho2,hb⟩;obtain⟨Aj,cj,rfl⟩:=zAK ho2;obtain⟨l2,q2,rfl⟩:=zA0 hb;clear hb;simp only[zAO,List.append_assoc] at ho2;have HO2:=zh ho2;clear ho2)|(go_at_call 276;refine(HS.out _ _ _ _ bel (by simp) (own_below HO2.out bel)).mono ?_;rintro e w5 ⟨rfl,ho5,hb5⟩;obtain⟨ln,qn,rfl⟩:=zA0 hb5;obtain⟨g,c2,e2,hgb,hg,hx⟩:=own_form ho5 hn0;injection e2 with e3 _ e5;subst e3 e5;have x0:=hx i0 _ HIX.out;clear hb5 ho5 hx)|(go_at_call 55;refine mB (zAq _ _) ?_;intro l3 q3))
     all_goals go_returns
     all_goals exact⟨rfl,bel⟩
 ·have h1':(ck != 0)=true:=by simpa using h1
  rw[if_pos h1]
  clear h1
  go_enter Tryz.func219,Tryz.ntmps219
  go_wp2_with(first|(go_at_call_of 275 (Value.agg #[Value.int .i64 (a1.val).tag,Value.int .i64 (a1.val).num,Value.string (a1.val).str,Value.bool (a1.val).is,Value.int .i64 (a1.val).code]);refine mB (HI1.out _) ?_;intro m1 r1)|(go_at_call 21;refine mB (zA3 _ _) ?_;intro l3 q3))
  all_goals go_returns
  all_goals exact⟨rfl,bel⟩
def joinS (by':ByteArray) (l:List ByteArray):ByteArray:=⟨(Lib.join (l.map (·.data.toList)) by'.data.toList).toArray⟩
def joinGo (tx:Int) (by':ByteArray):Int->List V->List ByteArray->V
 | _,[],l=>txtG (joinS by' l)
 | n,v::r,l=>if v.tag=0 then joinGo tx by' n r l else if tx<n+((by'.size:Int)+((zAR v).1.size:Int)) then errG 7 else joinGo tx by' (n+((by'.size:Int)+((zAR v).1.size:Int))) r (l++[(zAR v).1])
def joinG (tx:Int) (p:Arg×List En) (pl:List (Arg×List En)):V :=
 if (zAA (zA4 pl)).2.tag=4 then (zAA (zA4 pl)).2 else joinGo tx (zAR p.1.val).1 (-((zAR p.1.val).1.size:Int)) (zA4 pl) []
theorem join_any (ws:List ByteArray) (sep:ByteArray) (v:Value) (base:Nat) (w:World) (h:w.ownsRow base 9 1 v ws.length (ws.map Value.string)) (hl:ws.length<=20000000) (hx:∀ x∈ws,x.size<=1048576) (hs:sep.size<=1048576) :
  Rt 253 #[v,.string sep] w (.string (joinS sep ws)):=by
 have hlen:(Lib.join (ws.map (·.data.toList)) sep.data.toList).length<=140737488355328:=by
  have h1:=join_le sep.data.toList 1048576 (ws.map (·.data.toList)) (fun x hx2=>by
   obtain⟨y,hy,rfl⟩:=List.mem_map.1 hx2
   rw[Array.length_toList]
   exact hx y hy)
  rw[List.length_map] at h1
  have hss:sep.data.toList.length<=1048576:=by rw[Array.length_toList];exact hs
  have h2:ws.length*(1048576+sep.data.toList.length)<=20000000*(1048576+1048576):=Nat.mul_le_mul hl (by omega)
  omega
 rcases h.2 with ⟨rfl,h0⟩|⟨g,cap,cur,rfl,hb,hg,hnc,_,_,_⟩
 ·obtain rfl:ws=[]:=List.length_eq_zero_iff.1 h0
  refine(Tryz.strings_Join_none none 0 sep w).mono ?_
  rintro e w' ⟨rfl,rfl⟩
  exact⟨rfl,Below.refl _ _⟩
 ·have hlt:g<w.heap.size:=(Array.getElem?_eq_some_iff.1 hg).1
  exact Tryz.strings_Join g 0 cap ws sep w (fun j x hj=>by
   have:=h.cells (g:=g) rfl j (.string x) (by simp[hj])
   have e:(⟨g,0,none⟩:Addr).add j=⟨g,0+j,none⟩:=by unfold Addr.add;split<;>simp_all
   rw[e] at this
   exact this) hlt (by omega) hnc hlen
theorem aggs_JOIN (a0:Arg) (es0:List En) (pl:List (Arg×List En)) (n b off c:Nat) (tx:Int) (htx: -1<=tx/\tx<=1024) (w:World) (hc0:∀ i u,a0.cells[i]? =some u->w.cell? ⟨b,off+0+i,none⟩=some u) (hP:ArgsAt w pl (some ⟨b,off+11,none⟩) n) (hn1:1<=n) (hcap:n+1<=c) (h1:Is64 a0.val.num) (hs0:a0.val.str.size<=1048576) (hsz:∀ v∈zA4 pl,v.str.size<=1048576) (hT7:(zA4 pl).length<=20000000) (hp:zBs w) :
  Rt 220 #[.slice (some ⟨b,off,none⟩) (n+1) c,.int .i64 tx] w (vG (joinG tx (a0,es0) pl)):=by
 have HI:=zh (fun W (hb:Below w.heap.size w W) c'=>aggs_items pl (some ⟨b,off+11,none⟩) n c' W.heap.size W (hP.below hb).hr (hP.below hb).hE hP.hT hP.hm hP.hnn)
 have HA:=zh (fun A' c' B' W (h:Reads W B' 5 A' (zA4 pl).length (flat (zA4 pl)))=>aggs_among (zA4 pl) A' (zA4 pl).length c' B' W h hP.hT)
 have HP:=zh hp
 have hm:=hP.hm
 obtain⟨cc,rfl⟩:∃ cc,c=cc+2:=⟨c-2,by omega⟩
 have HM:=zh (items_may hP)
 have HSZ:=zh hsz
 have HT0:=zh (fun W (h:zBs W)=>zB8 a0.val h1 W h)
 have hbz:=asTxt_size a0.val h1 hs0
 have c1:=hc0 1 _ rfl
 have c2:=hc0 2 _ rfl
 have c3:=hc0 3 _ rfl
 have c4:=hc0 4 _ rfl
 have c5:=hc0 5 _ rfl
 have hb:=cltK c1
 have hb1:b<w.heap.size+1:=by omega
 simp only[Nat.add_zero] at c1 c2 c3 c4 c5
 unfold joinG
 obtain⟨us,hL⟩:∃ us,zA4 pl=us:=⟨_,rfl⟩
 rw[hL] at HI HA HM HSZ hT7
 rw[hL]
 obtain⟨ls,hls⟩:∃ ls,(zAA us).1=ls:=⟨_,rfl⟩
 obtain⟨f,hf0⟩:∃ f,(zAA us).2=f:=⟨_,rfl⟩
 simp only[hls,hf0] at HA ⊢
 obtain⟨sp,hsp⟩:∃ sp,(zAR a0.val).1=sp:=⟨_,rfl⟩
 rw[hsp] at HT0 hbz ⊢
 clear hc0 hP h1 hL hls hf0 hsp hs0 hsz hp
 by_cases h4:f.tag=4
 ·have h4':(f.tag==4)=true:=by simp[h4]
  rw[if_pos h4]
  clear h4
  go_enter Tryz.func220,Tryz.ntmps220
  go_wp2_with(first|(go_at_call_of 40 (Value.agg #[Value.int .i64 (a0.val).tag,Value.int .i64 (a0.val).num,Value.string (a0.val).str,Value.bool (a0.val).is,Value.int .i64 (a0.val).code]);refine mB (HT0.out _ (HP.out.below bel (Nat.le_refl _))) ?_;intro m0 r0)|(go_at_call 266;refine(HI.out _ bel _).mono ?_;rintro e w1 ⟨v,rfl,ho,hb⟩;obtain⟨Ai,ci,rfl⟩:=zAK ho;obtain⟨l1,q1,rfl⟩:=zA0 hb;clear hb;(try simp only[zAO,List.append_assoc] at ho);have HO:=zh ho;clear ho)|(go_at_call 265;refine(HA.out _ _ _ _ (Reads.zB5 HO.out)).mono ?_;rintro e w2 ⟨v,rfl,ho2,hb⟩;obtain⟨Aj,cj,rfl⟩:=zAK ho2;obtain⟨l2,q2,rfl⟩:=zA0 hb;clear hb;simp only[zAO,List.append_assoc] at ho2;have HO2:=zh ho2;clear ho2))
  all_goals go_returns
  all_goals exact⟨rfl,bel⟩
 ·have h4':(f.tag==4)=false:=by simp[h4]
  rw[if_neg h4]
  obtain⟨R,hR⟩:∃ R,joinGo tx sp (-(sp.size:Int)) us []=R:=⟨_,rfl⟩
  rw[hR]
  have HRX:=zh hR
  have s0:wrap64 (-(sp.size:Int))= -(sp.size:Int):=wrn _ (by omega)
  clear h4 hR
  go_enter Tryz.func220,Tryz.ntmps220
  obtain⟨iS,hiS,hz0S,hz1S,hz2S⟩:=info_parts info_S
  go_wp2_with(first|(go_at_call_of 40 (Value.agg #[Value.int .i64 (a0.val).tag,Value.int .i64 (a0.val).num,Value.string (a0.val).str,Value.bool (a0.val).is,Value.int .i64 (a0.val).code]);refine mB (HT0.out _ (HP.out.below bel (Nat.le_refl _))) ?_;intro m0 r0)|(go_at_call 266;refine(HI.out _ bel _).mono ?_;rintro e w1 ⟨v,rfl,ho,hb⟩;obtain⟨Ai,ci,rfl⟩:=zAK ho;obtain⟨l1,q1,rfl⟩:=zA0 hb;clear hb;(try simp only[zAO,List.append_assoc] at ho);have HO:=zh ho;clear ho)|(go_at_call 265;refine(HA.out _ _ _ _ (Reads.zB5 HO.out)).mono ?_;rintro e w2 ⟨v,rfl,ho2,hb⟩;obtain⟨Aj,cj,rfl⟩:=zAK ho2;obtain⟨l2,q2,rfl⟩:=zA0 hb;clear hb;simp only[zAO,List.append_assoc] at ho2;have HO2:=zh ho2;clear ho2))
  obtain⟨WX,hWX⟩:∃ WX,WX=(more (w.alloc zObj) (m0++(l1++l2)) q2).alloc (.cells #[.int .i64 f.tag,.int .i64 f.num,.string f.str,.bool f.is,.int .i64 f.code] 44):=⟨_,rfl⟩
  have HWX:=zh hWX
  have HBX:=zh (show Below (w.alloc zObj).heap.size (w.alloc zObj) WX by rw[hWX];exact bel)
  have hbl:Below (more (w.alloc zObj) (m0++l1) q1).heap.size (more (w.alloc zObj) (m0++l1) q1) WX:=by
   have h1:more (w.alloc zObj) (m0++(l1++l2)) q2=more (more (w.alloc zObj) (m0++l1) q1) l2 q2:=by rw[zAO,List.append_assoc]
   rw[hWX,h1]
   exact zBx (zAi (Nat.le_refl _)) _ (by simp only[zAU];exact Nat.le_add_right _ _)
  have HRD:=zh (show Reads WX WX.heap.size 5 Ai us.length (flat us) from ((Reads.zB5 HO.out).below hbl).lift hbl.size)
  clear hbl
  clear HO hWX HO2
  go_loopw [41,10,11] (fun t v m wr=>∃ j:Nat,∃ k:Int,∃ ss:List ByteArray,j<=us.length/\t=.int .i64 j/\m=.int .i64 k/\zAW WX wr 9 1 v ss.length (ss.map Value.string)/\ss.length<=j/\(-1048576<=k/\k<=1048576)/\(∀ x∈ss,x.size<=1048576)/\joinGo tx sp k (us.drop j) ss=R) (fun t _ _ _=>us.length-(intOf t).toNat)
  case atStart=>exact⟨0,_,[],Nat.zero_le _,rfl,rfl,⟨by rw[HWX.out];exact Below.refl _ _,World.ownsRow_nil _ _ _ _⟩,Nat.le_refl _,⟨by omega,by omega⟩,(fun x hx=>by simp at hx),HRX.out⟩
  case round =>
   obtain⟨j,k,ss,hj,rfl,rfl,hG,hsl,⟨hk1,hk2⟩,hss,hgo⟩:=hrel
   have hb1x:=HBX.out.trans (hG.1.mono HBX.out.size)
   have hb2:Below w.heap.size w wr:=(show Below w.heap.size w (w.alloc zObj) from bel).trans (hb1x.mono (by simp))
   have HG:=zh hG
   have HB1:=zh hb1x
   have HB2:=zh hb2
   have HSS:=zh hss
   have hb2s:=hb2.size
   clear hG hb1x hb2 hss
   by_cases hlt:j<us.length
   ·obtain⟨x,hx⟩:∃ x,us[j]? =some x:=⟨_,List.getElem?_eq_getElem hlt⟩
    obtain⟨bk,ofx,rfl,_,hc⟩:=HRD.out.2 (by omega)
    have hcell:∀ i u,x.cells[i]? =some u->wr.cell? ⟨bk,ofx+(j*5+i),none⟩=some u:=fun i u hu=>cell_below (hc _ u (flat_at us j x hx i u hu)) HG.out.1
    have e0:=hcell 0 _ rfl
    have e1:=hcell 1 _ rfl
    have e2:=hcell 2 _ rfl
    have e3:=hcell 3 _ rfl
    have e4:=hcell 4 _ rfl
    simp only[<- Nat.add_assoc,Nat.add_zero] at e0 e1 e2 e3 e4
    have hbr:=cltK e0
    obtain⟨hxm,hx64⟩:=HM.out x (List.mem_of_getElem? hx)
    have hxz:=HSZ.out x (List.mem_of_getElem? hx)
    rw[drop_at hx] at hgo
    unfold joinGo at hgo
    have HTX:=zh (fun W (h:zBs W)=>zB8 x hx64 W h)
    have hsz:=asTxt_size x hx64 hxz
    obtain⟨tt,htt⟩:∃ tt,(zAR x).1=tt:=⟨_,rfl⟩
    rw[htt] at HTX hsz hgo
    clear hcell hx hxm hx64 hxz htt
    by_cases ht0:x.tag=0
    ·have ht0':(x.tag==0)=true:=by simp[ht0]
     rw[if_pos ht0] at hgo
     have HGO:=zh hgo
     clear ht0 hgo hc
     go_wp2
     go_roundw
     case rel=>exact⟨j+1,_,_,by omega,by go_num,rfl,⟨HG.out.1.trans ((show Below wr.heap.size wr _ from bel).mono HG.out.1.size),own_below HG.out.2 bel⟩,by omega,⟨hk1,hk2⟩,HSS.out,HGO.out⟩
     case measure=>simp[intOf];omega
    ·have ht0':(x.tag==0)=false:=by simp[ht0]
     rw[if_neg ht0] at hgo
     obtain⟨k',hk'⟩:∃ k':Int,k+((sp.size:Int)+(tt.size:Int))=k':=⟨_,rfl⟩
     rw[hk'] at hgo
     obtain⟨z1,hz1⟩:∃ z1:Int,(sp.size:Int)+(tt.size:Int)=z1:=⟨_,rfl⟩
     have hz2:0<=z1/\z1<=2097152:=by omega
     have hkb0:k'=k+z1:=by rw[<- hz1];exact hk'.symm
     have HS1:=zh (show wrap64 ((sp.size:Int)+(tt.size:Int))=z1 by rw[hz1];exact wr64 (by omega) (by omega))
     have HS2:=zh (show wrap64 (k+z1)=k' by rw[hkb0];exact wr64 (by omega) (by omega))
     have HK3:=zh hk'
     clear hk' hz1
     by_cases hg:tx<k'
     ·have hg':(decide (tx<k'))=true:=decide_eq_true hg
      rw[if_pos hg] at hgo
      have HRR:=zh hgo.symm
      have hg2:(decide (tx<k+((sp.size:Int)+(tt.size:Int))))=true:=decide_eq_true (by rw[HK3.out];exact hg)
      obtain⟨l0,q0,hwe⟩:=zA0 HB1.out
      subst hwe
      clear ht0 hg hgo hc hkb0 hz2
      have s1:=HS1.out
      have s2:=HS2.out
      simp only[zAU,World.size_alloc] at hbr hb2s
      go_wp2_with(first|(go_at_call 40;refine mB (HTX.out _ (HP.out.below bel (Nat.le_refl _))) ?_;intro m4 r4)|(go_at_call 21;refine mB (zA3 _ _) ?_;intro l3 q3))
      all_goals go_returns
      all_goals exact⟨by rw[HRR.out],bel⟩
     ·have hg':(decide (tx<k'))=false:=decide_eq_false hg
      rw[if_neg hg] at hgo
      have HGO:=zh hgo
      have hkb: -1048576<=k'/\k'<=1048576:=by omega
      have HSZT:=zh hsz
      clear ht0 hg hgo hc hsz hkb0 hz2
      have s1:=HS1.out
      have s2:=HS2.out
      go_wp2_with(first|(go_at_call 40;refine mB (HTX.out _ (HP.out.below (HB2.out.trans ((show Below wr.heap.size wr _ from bel).mono HB2.out.size)) (Nat.le_refl _))) ?_;intro m4 r4)|(at_builtin;refine wpList_append_own _ rfl _ _ 175 rfl WX.heap.size 9 iS _ 1 16 Tryz.underlying175 hiS hz0S hz1S hz2S rfl (by decide) _ _ _ rfl (own_below HG.out.2 bel) _ 1 1 [.string tt] rfl rfl ?_ ?_ ?_ ?_ ?_ ?_))
      ·first|exact fun i u hu=>zAe (by simp) i u hu|exact fun i u hu=>hu
      ·intro u hu;simp only[List.mem_cons,List.not_mem_nil,or_false] at hu;subst hu;rfl
      ·clear s1 s2;simp only[maxLen];omega
      ·clear s1 s2;omega
      ·clear s1 s2
       have h1:=HG.out.1.size
       simp at h1 ⊢
       omega
      ·intro v' w3 hown' hgrow _
       have R:=zAW.step HG.out bel (show w3.ownsRow WX.heap.size 9 1 v' (ss.length+1) (ss.map Value.string++[.string tt]) from by simpa using hown') hgrow
       rw[show ss.map Value.string++[.string tt]=(ss++[tt]).map Value.string by simp,show ss.length+1=(ss++[tt]).length by simp] at R
       have HG':=zh R
       clear s1 s2 hown' hgrow R HG e0 e1 e2 e3 e4
       go_wp2
       go_roundw
       case rel=>exact⟨j+1,_,_,by omega,by go_num,rfl,HG'.out,by simp;omega,hkb,fun y hy=>by (rcases List.mem_append.1 hy with hy|hy;(exact HSS.out y hy);(simp only[List.mem_cons,List.not_mem_nil,or_false] at hy;subst hy;exact HSZT.out)),HGO.out⟩
       case measure=>simp[intOf];omega
   ·obtain rfl:j=us.length:=by omega
    rw[List.drop_of_length_le (Nat.le_refl _)] at hgo
    have HRR:=zh (show R=txtG (joinS sp ss) from hgo.symm)
    have HJ:=zh (fun W (hb:Below wr.heap.size wr W) v (ho:wr.ownsRow WX.heap.size 9 1 v ss.length (ss.map Value.string))=>join_any ss sp v _ W (own_below ho hb) (by omega) HSS.out hbz)
    obtain⟨Aj2,cj2,e3⟩:=zAK HG.out.2
    subst e3
    have HJ2:=zh (fun W (hb:Below wr.heap.size wr W)=>HJ.out W hb _ HG.out.2)
    obtain⟨l0,q0,hwe⟩:=zA0 HB1.out
    subst hwe
    obtain⟨js,hjs⟩:∃ js,joinS sp ss=js:=⟨_,rfl⟩
    rw[hjs] at HRR HJ2
    obtain⟨nn,hnn⟩:∃ nn,ss.length=nn:=⟨_,rfl⟩
    rw[hnn] at HJ2 ⊢
    clear hgo hjs hnn HJ
    go_wp2_with(first|(go_at_call 253;refine mB (HJ2.out _ bel) ?_;intro m4 r4)|(go_at_call 41;refine mB (value_Txt _ _) ?_;intro m5 r5))
    all_goals go_returns
    all_goals exact⟨by rw[HRR.out],bel⟩
def p0A:Arg×List En:=(⟨false,⟨0,0,⟨#[]⟩,false,0⟩,0,0,0,0,none,0,0⟩,[])
def aggDo (s:ByteArray) (tx:Int) (pl:List (Arg×List En)):V :=
 if (⟨#[67,79,76,83]⟩:ByteArray)=s then numG (zBl (pl.getD 0 p0A).1*10000) else
 if (⟨#[82,79,87,83]⟩:ByteArray)=s then numG (zBm (pl.getD 0 p0A).1*10000) else
 if (⟨#[74,79,73,78]⟩:ByteArray)=s then joinG tx (pl.getD 0 p0A) (pl.drop 1) else
 if (⟨#[76,65,82,71,69]⟩:ByteArray)=s then largeG (pl.getD 0 p0A) (pl.getD 1 p0A).1.val else
 if (⟨#[73,78,68,69,88]⟩:ByteArray)=s then indexG (pl.getD 0 p0A).1 (pl.getD 0 p0A).2 (pl.getD 1 p0A).1.val (pl.getD 2 p0A).1.val else
 if (⟨#[76,79,79,75,85,80]⟩:ByteArray)=s then lookupG (pl.getD 1 p0A).1 (pl.getD 1 p0A).2 (pl.getD 2 p0A).1 (pl.getD 2 p0A).2 (pl.getD 0 p0A).1.val else
 if (⟨#[77,65,84,67,72]⟩:ByteArray)=s then matchG (pl.getD 1 p0A).1 (pl.getD 1 p0A).2 (pl.getD 0 p0A).1.val else
 if (⟨#[83,85,77,73,70]⟩:ByteArray)=s then sumifG (pl.getD 0 p0A).1 (pl.getD 0 p0A).2 (pl.getD 1 p0A).1.val (pl.getD 2 p0A).1 (pl.getD 2 p0A).2 else
 if (⟨#[67,79,85,78,84,73,70]⟩:ByteArray)=s then countifG (pl.getD 0 p0A).1 (pl.getD 0 p0A).2 (pl.getD 1 p0A).1.val else
 if (⟨#[66,76,65,78,75,83]⟩:ByteArray)=s then countifG (pl.getD 0 p0A).1 (pl.getD 0 p0A).2 zeroG else
 if (⟨#[67,79,85,78,84,65]⟩:ByteArray)=s then numG (((zA4 pl).countP fun v=>v.tag != 0:Nat)*10000) else
 if (⟨#[67,79,85,78,84]⟩:ByteArray)=s then numG (((zA4 pl).countP fun v=>v.tag==1:Nat)*10000) else
 if (⟨#[77,69,68,73,65,78]⟩:ByteArray)=s then if (zAA (zA4 pl)).2.tag=4 then (zAA (zA4 pl)).2 else if (zAA (zA4 pl)).1.length=0 then errG 6 else numG (medianG (zAA (zA4 pl)).1) else
 if (⟨#[65,86,71]⟩:ByteArray)=s then if (zAA (zA4 pl)).2.tag=4 then (zAA (zA4 pl)).2 else if (zAA (zA4 pl)).1.length=0 then errG 6 else numG (meanG (zAA (zA4 pl)).1) else
 if (⟨#[77,65,88]⟩:ByteArray)=s then if (zAA (zA4 pl)).2.tag=4 then (zAA (zA4 pl)).2 else if (zAA (zA4 pl)).1.length=0 then errG 6 else numG (Lib.maxOf (zAA (zA4 pl)).1) else
 if (⟨#[77,73,78]⟩:ByteArray)=s then if (zAA (zA4 pl)).2.tag=4 then (zAA (zA4 pl)).2 else if (zAA (zA4 pl)).1.length=0 then errG 6 else numG (Lib.minOf (zAA (zA4 pl)).1) else
 if (⟨#[80,82,79,68]⟩:ByteArray)=s then if (zAA (zA4 pl)).2.tag=4 then (zAA (zA4 pl)).2 else prodGo 10000 (zAA (zA4 pl)).1 else
 if (⟨#[83,85,77]⟩:ByteArray)=s then if (zAA (zA4 pl)).2.tag=4 then (zAA (zA4 pl)).2 else fitG (zAA (zA4 pl)).1.sum else
 errG 8
def DoesA (w:World) (fn:Fn) (first cap:Array Value) (A:Option Addr) (n c:Nat) (tx:Int) (r:V):Prop :=
 (∃ k,fn=.func k/\first= #[]/\cap= #[]/\(∀ (args:Array Value) (w:World),Sem.run Tryz.prog (callFunc k args) w=.ok (.enter k args) w) /\
  ∀ W,Below w.heap.size w W->Calls Tryz.prog k #[.slice A n c,.int .i64 tx] W fun e w'=>e=.returned (vG r)/\Below W.heap.size W w') ∨
 (∃ k p,fn=.func k/\first= #[]/\cap= #[.pointer (some ⟨p,0,none⟩)]/\(∀ (args:Array Value) (w:World),Sem.run Tryz.prog (callFunc k args) w=.ok (.enter k args) w) /\
  ∀ W,Below w.heap.size w W->Calls Tryz.prog k #[.slice A n c,.int .i64 tx,.pointer (some ⟨p,0,none⟩)] W fun e w'=>e=.returned (vG r)/\Below W.heap.size W w')
theorem zBN {w:World} {pl:List (Arg×List En)} {A:Option Addr} {n:Nat} (h:ArgsAt w pl A n) (hn:0<n):∃ b off,A=some ⟨b,off,none⟩/\∀ j p,pl[j]? =some p->∀ i u,p.1.cells[i]? =some u->w.cell? ⟨b,off+11*j+i,none⟩=some u:=by
 obtain⟨b,off,rfl,_,hc⟩:=h.hr.2 hn
 refine⟨b,off,rfl,fun j p hj i u hu=> ?_⟩
 have h1:=hc _ u (zAb (pl.map Prod.fst) j p.1 (by rw[List.getElem?_map,hj];rfl) i u hu)
 rw[show off+11*j+i=off+(j*11+i) by omega]
 exact h1
theorem args_tail {w:World} {p:Arg×List En} {pl:List (Arg×List En)} {b off n:Nat} (h:ArgsAt w (p::pl) (some ⟨b,off,none⟩) (n+1)) (hT:(zA4 pl).length<=1000000000000):ArgsAt w pl (some ⟨b,off+11,none⟩) n:=by
 obtain⟨b',off',e,hb,hc⟩:=h.hr.2 (by omega)
 simp only[Option.some.injEq,Addr.mk.injEq,and_true] at e
 obtain⟨rfl,rfl⟩:=e
 refine⟨⟨?_,fun _=>⟨b,off+11,rfl,hb,fun j u hu=> ?_⟩⟩,fun q hq=>h.hE q (List.mem_cons_of_mem _ hq),hT,by have:=h.hm;omega,fun q hq=>h.hnn q (List.mem_cons_of_mem _ hq),fun q hq=>h.h64 q (List.mem_cons_of_mem _ hq),fun q hq=>h.hok q (List.mem_cons_of_mem _ hq)⟩
 ·have h1:=h.hr.1
  rw[List.map_cons,zBf,List.length_append] at h1
  have:p.1.cells.length=11:=rfl
  omega
 ·have h1:=hc (11+j) u (by rw[List.map_cons,zBf,List.getElem?_append_right (show p.1.cells.length<=11+j from Nat.le_add_right _ _),show 11+j-p.1.cells.length=j from Nat.add_sub_cancel_left 11 j];exact hu)
  rw[show off+11+j=off+(11+j) by omega]
  exact h1
theorem args_head {w:World} {p:Arg×List En} {pl:List (Arg×List En)} {b off n:Nat} (h:ArgsAt w (p::pl) (some ⟨b,off,none⟩) (n+1)) (hT:(zA4 [p]).length<=1000000000000):ArgsAt w [p] (some ⟨b,off,none⟩) 1:=by
 obtain⟨b',off',e,hb,hc⟩:=h.hr.2 (by omega)
 simp only[Option.some.injEq,Addr.mk.injEq,and_true] at e
 obtain⟨rfl,rfl⟩:=e
 have hmem:∀ q∈[p],q∈p::pl:=fun q hq=>by simp at hq;simp[hq]
 refine⟨⟨rfl,fun _=>⟨b,off,rfl,hb,fun j u hu=> ?_⟩⟩,fun q hq=>h.hE q (hmem q hq),hT,by omega,fun q hq=>h.hnn q (hmem q hq),fun q hq=>h.h64 q (hmem q hq),fun q hq=>h.hok q (hmem q hq)⟩
 have hu2:p.1.cells[j]? =some u:=by simpa [zBf,zBC] using hu
 exact hc j u (by rw[List.map_cons,zBf,List.getElem?_append_left (List.getElem?_eq_some_iff.1 hu2).1];exact hu2)
theorem zB9 {a:Arg} {es:List En} (h:zBo a es=true) (hm:a.many=true):zAQ a/\(∀ e∈es,SmallE e)/\1<=zBm a/\1<=zBl a:=by
 unfold zBo at h
 rw[if_pos hm] at h
 simp only[Bool.and_eq_true] at h
 obtain⟨⟨h1,_⟩,h2⟩:=h
 simp only[rectB,zCB,Bool.and_eq_true,decide_eq_true_eq] at h1
 refine⟨by unfold zAQ;omega,fun e he=> ?_,by unfold zBm;omega,by unfold zBl;omega⟩
 have h3:=(entsGo_may h2 e he).2
 simp only[inB,Bool.and_eq_true,decide_eq_true_eq] at h3
 unfold SmallE
 omega
theorem kinds_at {c:ByteArray} {xs:List Bool} {n i:Nat} (h:zB7 c xs n=true) (hi:i<n):kindOk c xs i=true:=by
 unfold zB7 at h
 exact List.all_eq_true.1 h i (List.mem_range.2 hi)
theorem zBV {c:ByteArray} {xs:List Bool} {n i:Nat} (h:zB7 c xs n=true) (hi:i<n) (hc:kindAt c i=114):xs.getD i false=true:=by
 have h1:=kinds_at h hi
 unfold kindOk at h1
 rw[hc] at h1
 simpa using h1
theorem items_part {p:Arg×List En} {pl:List (Arg×List En)} (h:p∈pl):(zA4 [p]).length<=(zA4 pl).length:=by
 unfold zA4
 rw[List.length_flatMap,List.length_flatMap]
 simp only[List.map_cons,List.map_nil,List.sum_cons,List.sum_nil,Nat.add_zero]
 have hm:(zC3 p).length∈pl.map fun q=>(zC3 q).length:=List.mem_map.2 ⟨p,h,rfl⟩
 generalize (pl.map fun q=>(zC3 q).length)=l at hm ⊢
 induction l with
 | nil=>simp at hm
 | cons x l ih =>
   rw[List.sum_cons]
   rcases List.mem_cons.1 hm with e|e
   ·omega
   ·have:=ih e
    omega
theorem min_call (l:List Int) (A:Option Addr) (c B:Nat) (w:World) (hr:Reads w B 1 A l.length (I l)) (hn:0<l.length) (hm:l.length<=1000000000000) :
  Rt 206 #[.slice A l.length c] w (.int .i64 (Lib.minOf l)):=by
 obtain⟨b,off,rfl,_,hc⟩:=hr.2 hn
 have h:=Tryz.slices_Min_int b off l.length c l w hn (Nat.le_refl _) (by omega) (fun j hj=>hc j _ (by unfold I;rw[List.getElem?_map,List.getElem?_eq_getElem hj,List.getD_eq_getElem?_getD,List.getElem?_eq_getElem hj];rfl))
 rw[List.take_length] at h
 refine h.mono ?_
 rintro e w' ⟨rfl,rfl⟩
 exact⟨rfl,Below.refl _ _⟩
theorem max_call (l:List Int) (A:Option Addr) (c B:Nat) (w:World) (hr:Reads w B 1 A l.length (I l)) (hn:0<l.length) (hm:l.length<=1000000000000) :
  Rt 207 #[.slice A l.length c] w (.int .i64 (Lib.maxOf l)):=by
 obtain⟨b,off,rfl,_,hc⟩:=hr.2 hn
 have h:=Tryz.slices_Max_int b off l.length c l w hn (Nat.le_refl _) (by omega) (fun j hj=>hc j _ (by unfold I;rw[List.getElem?_map,List.getElem?_eq_getElem hj,List.getD_eq_getElem?_getD,List.getElem?_eq_getElem hj];rfl))
 rw[List.take_length] at h
 refine h.mono ?_
 rintro e w' ⟨rfl,rfl⟩
 exact⟨rfl,Below.refl _ _⟩
theorem len1 {α:Type} {l:List α} (h:l.length=1):∃ a,l=[a]:=by
 match l,h with
 | [a],_=>exact⟨a,rfl⟩
theorem len2 {α:Type} {l:List α} (h:l.length=2):∃ a b,l=[a,b]:=by
 match l,h with
 | [a,b],_=>exact⟨a,b,rfl⟩
theorem len3 {α:Type} {l:List α} (h:l.length=3):∃ a b c,l=[a,b,c]:=by
 match l,h with
 | [a,b,c],_=>exact⟨a,b,c,rfl⟩
theorem lenS {α:Type} {l:List α} {m:Nat} (h:l.length=m+1):∃ a r,l=a::r:=by
 match l,h with
 | a::r,_=>exact⟨a,r,rfl⟩
theorem in64 {x:Int} (h:In63 x):Is64 x:=by unfold In63 at h;unfold Is64;omega
theorem agg_do {w:World} {s ck:ByteArray} {x y:Int} {fn:Fn} {first cap:Array Value} {p:Nat} (ht:zB4 s=some (ck,x,y)) (hf:aggFn p s=some (.func fn first cap)) (hk:AggCells p w)
  (pl:List (Arg×List En)) (A:Option Addr) (n c:Nat) (tx:Int) (htx:0<=tx/\tx<=1024) (hP:ArgsAt w pl A n) (hlen:pl.length=n) (hx:x<=n) (hy:n<=y) (hcap:n<=c) (hkk:zB7 ck (pl.map fun q=>q.1.many) n=true)
  (hT7:(zA4 pl).length<=20000000) (hsz:∀ q∈pl,q.1.val.str.size<=1048576/\∀ e∈q.2,e.v.str.size<=1048576) (hn9:∀ q∈pl,q.1.n<=1000000000) (hp:zBs w):DoesA w fn first cap A n c tx (aggDo s tx pl):=by
 obtain⟨k1,k2,k3,k4,k5,k6,k7,k8,k9,k10,k11,k12⟩:=hk
 unfold zB4 at ht
 unfold aggFn at hf
 unfold aggDo
 by_cases eCOLS:(⟨#[67,79,76,83]⟩:ByteArray)=s
 ·rw[if_pos eCOLS] at ht hf ⊢
  cases ht
  cases hf
  obtain rfl:n=1:=by omega
  obtain⟨⟨a0,es0⟩,rfl⟩:=len1 hlen
  obtain⟨b,off,rfl,hc⟩:=zBN hP (by decide)
  have n0:=hn9 (a0,es0) (by simp)
  have i0:=hP.h64 (a0,es0) (by simp)
  have o0:=hP.hok (a0,es0) (by simp)
  obtain⟨s0,e0,r0,q0⟩:=zB9 o0 (zBV (i:=0) hkk (by decide) (by decide +kernel))
  refine .inl ⟨_,rfl,rfl,rfl,fun _ _=>rfl,fun W hW=> ?_⟩
  have c0:=fun i u hu=>cell_below (hc 0 (a0,es0) rfl i u hu) hW
  have hPW:=hP.below hW
  exact aggs_COLS a0 b off c tx W c0 s0
 rw[if_neg eCOLS] at ht hf ⊢
 by_cases eROWS:(⟨#[82,79,87,83]⟩:ByteArray)=s
 ·rw[if_pos eROWS] at ht hf ⊢
  cases ht
  cases hf
  obtain rfl:n=1:=by omega
  obtain⟨⟨a0,es0⟩,rfl⟩:=len1 hlen
  obtain⟨b,off,rfl,hc⟩:=zBN hP (by decide)
  have n0:=hn9 (a0,es0) (by simp)
  have i0:=hP.h64 (a0,es0) (by simp)
  have o0:=hP.hok (a0,es0) (by simp)
  obtain⟨s0,e0,r0,q0⟩:=zB9 o0 (zBV (i:=0) hkk (by decide) (by decide +kernel))
  refine .inl ⟨_,rfl,rfl,rfl,fun _ _=>rfl,fun W hW=> ?_⟩
  have c0:=fun i u hu=>cell_below (hc 0 (a0,es0) rfl i u hu) hW
  have hPW:=hP.below hW
  exact aggs_ROWS a0 b off c tx W c0 s0
 rw[if_neg eROWS] at ht hf ⊢
 by_cases eJOIN:(⟨#[74,79,73,78]⟩:ByteArray)=s
 ·rw[if_pos eJOIN] at ht hf ⊢
  cases ht
  cases hf
  obtain⟨m,rfl⟩:∃ m,n=m+1:=⟨n-1,by omega⟩
  obtain⟨⟨a0,es0⟩,pl,rfl⟩:=lenS hlen
  ·skip
   obtain⟨b,off,rfl,hc⟩:=zBN hP (by omega)
   have i0:=hP.h64 (a0,es0) (by simp)
   have z0:=(hsz (a0,es0) (by simp)).1
   have hle:(zA4 pl).length<=(zA4 ((a0,es0)::pl)).length:=by unfold zA4;rw[List.flatMap_cons,List.length_append];omega
   refine .inl ⟨_,rfl,rfl,rfl,fun _ _=>rfl,fun W hW=> ?_⟩
   refine aggs_JOIN a0 es0 pl m b off c tx (by omega) W (fun i u hu=>cell_below (hc 0 (a0,es0) rfl i u hu) hW) (args_tail (hP.below hW) (by omega)) (by omega) hcap i0.1 z0 (fun v hv=> ?_) (by omega) (hp.below hW (Nat.le_refl _))
   obtain⟨q,hq,hv⟩:=List.mem_flatMap.1 hv
   have h1:=hsz q (List.mem_cons_of_mem _ hq)
   unfold zC3 at hv
   rcases List.mem_append.1 hv with hv|hv
   ·split at hv
    ·simp at hv
    ·simp only[List.mem_cons,List.not_mem_nil,or_false] at hv
     subst hv
     exact h1.1
   ·obtain⟨e,he,rfl⟩:=List.mem_map.1 hv
    exact h1.2 e he
 rw[if_neg eJOIN] at ht hf ⊢
 by_cases eLARGE:(⟨#[76,65,82,71,69]⟩:ByteArray)=s
 ·rw[if_pos eLARGE] at ht hf ⊢
  cases ht
  cases hf
  obtain rfl:n=2:=by omega
  obtain⟨⟨a0,es0⟩,⟨a1,es1⟩,rfl⟩:=len2 hlen
  obtain⟨b,off,rfl,hc⟩:=zBN hP (by decide)
  have n0:=hn9 (a0,es0) (by simp)
  have i0:=hP.h64 (a0,es0) (by simp)
  have o0:=hP.hok (a0,es0) (by simp)
  obtain⟨s0,e0,r0,q0⟩:=zB9 o0 (zBV (i:=0) hkk (by decide) (by decide +kernel))
  have n1:=hn9 (a1,es1) (by simp)
  have i1:=hP.h64 (a1,es1) (by simp)
  have o1:=hP.hok (a1,es1) (by simp)
  refine .inl ⟨_,rfl,rfl,rfl,fun _ _=>rfl,fun W hW=> ?_⟩
  have c0:=fun i u hu=>cell_below (hc 0 (a0,es0) rfl i u hu) hW
  have c1:=fun i u hu=>cell_below (hc 1 (a1,es1) rfl i u hu) hW
  have hPW:=hP.below hW
  exact aggs_LARGE a0 a1 es0 b off c tx W c1 (args_head hPW (by have:=items_part (p:=(a0,es0)) (pl:=[(a0,es0),(a1,es1)]) (by simp);omega)) hcap i1.1
 rw[if_neg eLARGE] at ht hf ⊢
 by_cases eINDEX:(⟨#[73,78,68,69,88]⟩:ByteArray)=s
 ·rw[if_pos eINDEX] at ht hf ⊢
  cases ht
  cases hf
  obtain rfl:n=3:=by omega
  obtain⟨⟨a0,es0⟩,⟨a1,es1⟩,⟨a2,es2⟩,rfl⟩:=len3 hlen
  obtain⟨b,off,rfl,hc⟩:=zBN hP (by decide)
  have n0:=hn9 (a0,es0) (by simp)
  have i0:=hP.h64 (a0,es0) (by simp)
  have o0:=hP.hok (a0,es0) (by simp)
  obtain⟨s0,e0,r0,q0⟩:=zB9 o0 (zBV (i:=0) hkk (by decide) (by decide +kernel))
  have n1:=hn9 (a1,es1) (by simp)
  have i1:=hP.h64 (a1,es1) (by simp)
  have o1:=hP.hok (a1,es1) (by simp)
  have n2:=hn9 (a2,es2) (by simp)
  have i2:=hP.h64 (a2,es2) (by simp)
  have o2:=hP.hok (a2,es2) (by simp)
  refine .inl ⟨_,rfl,rfl,rfl,fun _ _=>rfl,fun W hW=> ?_⟩
  have c0:=fun i u hu=>cell_below (hc 0 (a0,es0) rfl i u hu) hW
  have c1:=fun i u hu=>cell_below (hc 1 (a1,es1) rfl i u hu) hW
  have c2:=fun i u hu=>cell_below (hc 2 (a2,es2) rfl i u hu) hW
  have hPW:=hP.below hW
  exact aggs_INDEX a0 a1 a2 es0 b off c tx W c0 c1 c2 (hPW.hE (a0,es0) (by simp)) s0 e0 n0 i1.1 i2.1
 rw[if_neg eINDEX] at ht hf ⊢
 by_cases eLOOKUP:(⟨#[76,79,79,75,85,80]⟩:ByteArray)=s
 ·rw[if_pos eLOOKUP] at ht hf ⊢
  cases ht
  cases hf
  obtain rfl:n=3:=by omega
  obtain⟨⟨a0,es0⟩,⟨a1,es1⟩,⟨a2,es2⟩,rfl⟩:=len3 hlen
  obtain⟨b,off,rfl,hc⟩:=zBN hP (by decide)
  have n0:=hn9 (a0,es0) (by simp)
  have i0:=hP.h64 (a0,es0) (by simp)
  have o0:=hP.hok (a0,es0) (by simp)
  have n1:=hn9 (a1,es1) (by simp)
  have i1:=hP.h64 (a1,es1) (by simp)
  have o1:=hP.hok (a1,es1) (by simp)
  obtain⟨s1,e1,r1,q1⟩:=zB9 o1 (zBV (i:=1) hkk (by decide) (by decide +kernel))
  have n2:=hn9 (a2,es2) (by simp)
  have i2:=hP.h64 (a2,es2) (by simp)
  have o2:=hP.hok (a2,es2) (by simp)
  obtain⟨s2,e2,r2,q2⟩:=zB9 o2 (zBV (i:=2) hkk (by decide) (by decide +kernel))
  refine .inl ⟨_,rfl,rfl,rfl,fun _ _=>rfl,fun W hW=> ?_⟩
  have c0:=fun i u hu=>cell_below (hc 0 (a0,es0) rfl i u hu) hW
  have c1:=fun i u hu=>cell_below (hc 1 (a1,es1) rfl i u hu) hW
  have c2:=fun i u hu=>cell_below (hc 2 (a2,es2) rfl i u hu) hW
  have hPW:=hP.below hW
  exact aggs_LOOKUP a0 a1 a2 es1 es2 b off c tx W c0 c1 c2 (hPW.hE (a1,es1) (by simp)) (hPW.hE (a2,es2) (by simp)) s1 s2 e1 e2 n1 n2 r1 q1
 rw[if_neg eLOOKUP] at ht hf ⊢
 by_cases eMATCH:(⟨#[77,65,84,67,72]⟩:ByteArray)=s
 ·rw[if_pos eMATCH] at ht hf ⊢
  cases ht
  cases hf
  obtain rfl:n=2:=by omega
  obtain⟨⟨a0,es0⟩,⟨a1,es1⟩,rfl⟩:=len2 hlen
  obtain⟨b,off,rfl,hc⟩:=zBN hP (by decide)
  have n0:=hn9 (a0,es0) (by simp)
  have i0:=hP.h64 (a0,es0) (by simp)
  have o0:=hP.hok (a0,es0) (by simp)
  have n1:=hn9 (a1,es1) (by simp)
  have i1:=hP.h64 (a1,es1) (by simp)
  have o1:=hP.hok (a1,es1) (by simp)
  obtain⟨s1,e1,r1,q1⟩:=zB9 o1 (zBV (i:=1) hkk (by decide) (by decide +kernel))
  refine .inl ⟨_,rfl,rfl,rfl,fun _ _=>rfl,fun W hW=> ?_⟩
  have c0:=fun i u hu=>cell_below (hc 0 (a0,es0) rfl i u hu) hW
  have c1:=fun i u hu=>cell_below (hc 1 (a1,es1) rfl i u hu) hW
  have hPW:=hP.below hW
  exact aggs_MATCH a0 a1 es1 b off c tx W c0 c1 (hPW.hE (a1,es1) (by simp)) s1 e1 n1 r1 q1
 rw[if_neg eMATCH] at ht hf ⊢
 by_cases eSUMIF:(⟨#[83,85,77,73,70]⟩:ByteArray)=s
 ·rw[if_pos eSUMIF] at ht hf ⊢
  cases ht
  cases hf
  obtain rfl:n=3:=by omega
  obtain⟨⟨a0,es0⟩,⟨a1,es1⟩,⟨a2,es2⟩,rfl⟩:=len3 hlen
  obtain⟨b,off,rfl,hc⟩:=zBN hP (by decide)
  have n0:=hn9 (a0,es0) (by simp)
  have i0:=hP.h64 (a0,es0) (by simp)
  have o0:=hP.hok (a0,es0) (by simp)
  obtain⟨s0,e0,r0,q0⟩:=zB9 o0 (zBV (i:=0) hkk (by decide) (by decide +kernel))
  have n1:=hn9 (a1,es1) (by simp)
  have i1:=hP.h64 (a1,es1) (by simp)
  have o1:=hP.hok (a1,es1) (by simp)
  have n2:=hn9 (a2,es2) (by simp)
  have i2:=hP.h64 (a2,es2) (by simp)
  have o2:=hP.hok (a2,es2) (by simp)
  obtain⟨s2,e2,r2,q2⟩:=zB9 o2 (zBV (i:=2) hkk (by decide) (by decide +kernel))
  refine .inl ⟨_,rfl,rfl,rfl,fun _ _=>rfl,fun W hW=> ?_⟩
  have c0:=fun i u hu=>cell_below (hc 0 (a0,es0) rfl i u hu) hW
  have c1:=fun i u hu=>cell_below (hc 1 (a1,es1) rfl i u hu) hW
  have c2:=fun i u hu=>cell_below (hc 2 (a2,es2) rfl i u hu) hW
  have hPW:=hP.below hW
  exact aggs_SUMIF a0 a1 a2 es0 es2 b off c tx W c0 c1 c2 (hPW.hE (a0,es0) (by simp)) (hPW.hE (a2,es2) (by simp)) s0 s2 e0 e2 n0 n2 i2.2
 rw[if_neg eSUMIF] at ht hf ⊢
 by_cases eCOUNTIF:(⟨#[67,79,85,78,84,73,70]⟩:ByteArray)=s
 ·rw[if_pos eCOUNTIF] at ht hf ⊢
  cases ht
  cases hf
  obtain rfl:n=2:=by omega
  obtain⟨⟨a0,es0⟩,⟨a1,es1⟩,rfl⟩:=len2 hlen
  obtain⟨b,off,rfl,hc⟩:=zBN hP (by decide)
  have n0:=hn9 (a0,es0) (by simp)
  have i0:=hP.h64 (a0,es0) (by simp)
  have o0:=hP.hok (a0,es0) (by simp)
  obtain⟨s0,e0,r0,q0⟩:=zB9 o0 (zBV (i:=0) hkk (by decide) (by decide +kernel))
  have n1:=hn9 (a1,es1) (by simp)
  have i1:=hP.h64 (a1,es1) (by simp)
  have o1:=hP.hok (a1,es1) (by simp)
  refine .inl ⟨_,rfl,rfl,rfl,fun _ _=>rfl,fun W hW=> ?_⟩
  have c0:=fun i u hu=>cell_below (hc 0 (a0,es0) rfl i u hu) hW
  have c1:=fun i u hu=>cell_below (hc 1 (a1,es1) rfl i u hu) hW
  have hPW:=hP.below hW
  exact aggs_COUNTIF a0 a1 es0 b off c tx W c0 c1 (hPW.hE (a0,es0) (by simp)) s0 n0
 rw[if_neg eCOUNTIF] at ht hf ⊢
 by_cases eBLANKS:(⟨#[66,76,65,78,75,83]⟩:ByteArray)=s
 ·rw[if_pos eBLANKS] at ht hf ⊢
  cases ht
  cases hf
  obtain rfl:n=1:=by omega
  obtain⟨⟨a0,es0⟩,rfl⟩:=len1 hlen
  obtain⟨b,off,rfl,hc⟩:=zBN hP (by decide)
  have n0:=hn9 (a0,es0) (by simp)
  have i0:=hP.h64 (a0,es0) (by simp)
  have o0:=hP.hok (a0,es0) (by simp)
  obtain⟨s0,e0,r0,q0⟩:=zB9 o0 (zBV (i:=0) hkk (by decide) (by decide +kernel))
  refine .inl ⟨_,rfl,rfl,rfl,fun _ _=>rfl,fun W hW=> ?_⟩
  have c0:=fun i u hu=>cell_below (hc 0 (a0,es0) rfl i u hu) hW
  have hPW:=hP.below hW
  exact aggs_BLANKS a0 es0 b off c tx W c0 (hPW.hE (a0,es0) (by simp)) s0 n0
 rw[if_neg eBLANKS] at ht hf ⊢
 by_cases eCOUNTA:(⟨#[67,79,85,78,84,65]⟩:ByteArray)=s
 ·rw[if_pos eCOUNTA] at ht hf ⊢
  cases ht
  cases hf
  refine .inr ⟨_,_,rfl,rfl,rfl,fun _ _=>rfl,fun W hW=> ?_⟩
  exact aggs_count _ _ (fun _ _=>rfl) _ (fun v W2=>aggs_isA v W2) pl A n c tx W (cell_below k12 hW) (hP.below hW)
 rw[if_neg eCOUNTA] at ht hf ⊢
 by_cases eCOUNT:(⟨#[67,79,85,78,84]⟩:ByteArray)=s
 ·rw[if_pos eCOUNT] at ht hf ⊢
  cases ht
  cases hf
  refine .inr ⟨_,_,rfl,rfl,rfl,fun _ _=>rfl,fun W hW=> ?_⟩
  exact aggs_count _ _ (fun _ _=>rfl) _ (fun v W2=>aggs_isN v W2) pl A n c tx W (cell_below k11 hW) (hP.below hW)
 rw[if_neg eCOUNT] at ht hf ⊢
 by_cases eMEDIAN:(⟨#[77,69,68,73,65,78]⟩:ByteArray)=s
 ·rw[if_pos eMEDIAN] at ht hf ⊢
  cases ht
  cases hf
  refine .inr ⟨_,_,rfl,rfl,rfl,fun _ _=>rfl,fun W hW=> ?_⟩
  exact zCI _ _ _ (fun _ _=>rfl) pl A n c tx W (cell_below k10 hW) (hP.below hW) _ (fun W2 A2 c2 hW2 hR=>aggs_some _ _ (fun _ _=>rfl) _ A2 c2 W2 (cell_below (cell_below k9 hW) hW2) hR _ (fun h0 W3 hW3 hR3=>aggs_median _ A2 c2 W3 hR3 h0 (by have:=among_le (zA4 pl);have:=hP.hT;omega) (among_63 hP)))
 rw[if_neg eMEDIAN] at ht hf ⊢
 by_cases eAVG:(⟨#[65,86,71]⟩:ByteArray)=s
 ·rw[if_pos eAVG] at ht hf ⊢
  cases ht
  cases hf
  refine .inr ⟨_,_,rfl,rfl,rfl,fun _ _=>rfl,fun W hW=> ?_⟩
  exact zCI _ _ _ (fun _ _=>rfl) pl A n c tx W (cell_below k8 hW) (hP.below hW) _ (fun W2 A2 c2 hW2 hR=>aggs_some _ _ (fun _ _=>rfl) _ A2 c2 W2 (cell_below (cell_below k7 hW) hW2) hR _ (fun h0 W3 hW3 hR3=>aggs_mean _ A2 _ c2 _ W3 hR3 h0 (by have:=among_le (zA4 pl);have:=hP.hT;omega) (among_63 hP)))
 rw[if_neg eAVG] at ht hf ⊢
 by_cases eMAX:(⟨#[77,65,88]⟩:ByteArray)=s
 ·rw[if_pos eMAX] at ht hf ⊢
  cases ht
  cases hf
  refine .inr ⟨_,_,rfl,rfl,rfl,fun _ _=>rfl,fun W hW=> ?_⟩
  exact zCI _ _ _ (fun _ _=>rfl) pl A n c tx W (cell_below k6 hW) (hP.below hW) _ (fun W2 A2 c2 hW2 hR=>aggs_some _ _ (fun _ _=>rfl) _ A2 c2 W2 (cell_below (cell_below k5 hW) hW2) hR _ (fun h0 W3 hW3 hR3=>max_call _ A2 c2 _ W3 hR3 h0 (by have:=among_le (zA4 pl);have:=hP.hT;omega)))
 rw[if_neg eMAX] at ht hf ⊢
 by_cases eMIN:(⟨#[77,73,78]⟩:ByteArray)=s
 ·rw[if_pos eMIN] at ht hf ⊢
  cases ht
  cases hf
  refine .inr ⟨_,_,rfl,rfl,rfl,fun _ _=>rfl,fun W hW=> ?_⟩
  exact zCI _ _ _ (fun _ _=>rfl) pl A n c tx W (cell_below k4 hW) (hP.below hW) _ (fun W2 A2 c2 hW2 hR=>aggs_some _ _ (fun _ _=>rfl) _ A2 c2 W2 (cell_below (cell_below k3 hW) hW2) hR _ (fun h0 W3 hW3 hR3=>min_call _ A2 c2 _ W3 hR3 h0 (by have:=among_le (zA4 pl);have:=hP.hT;omega)))
 rw[if_neg eMIN] at ht hf ⊢
 by_cases ePROD:(⟨#[80,82,79,68]⟩:ByteArray)=s
 ·rw[if_pos ePROD] at ht hf ⊢
  cases ht
  cases hf
  refine .inr ⟨_,_,rfl,rfl,rfl,fun _ _=>rfl,fun W hW=> ?_⟩
  exact aggs_numbers0 _ _ (fun _ _=>rfl) pl A n c tx W (cell_below k2 hW) (hP.below hW) _ (fun W2 A2 c2 hW2 hR=>aggs_prod _ A2 _ c2 _ W2 hR (by have:=among_le (zA4 pl);have:=hP.hT;omega) (fun x hx=>in64 (among_63 hP x hx)))
 rw[if_neg ePROD] at ht hf ⊢
 by_cases eSUM:(⟨#[83,85,77]⟩:ByteArray)=s
 ·rw[if_pos eSUM] at ht hf ⊢
  cases ht
  cases hf
  refine .inr ⟨_,_,rfl,rfl,rfl,fun _ _=>rfl,fun W hW=> ?_⟩
  exact aggs_numbers0 _ _ (fun _ _=>rfl) pl A n c tx W (cell_below k1 hW) (hP.below hW) _ (fun W2 A2 c2 hW2 hR=>aggs_sumit _ A2 c2 W2 hR (by have:=among_le (zA4 pl);have:=hP.hT;omega) (fun x hx=>in64 (among_63 hP x hx)))
 rw[if_neg eSUM] at ht hf ⊢
 cases ht
def zCH (s:ByteArray) (tx:Int) (vs:List V) (pl:List (Arg×List En)):V:=match vs.find? isF with
 | some v=>v
 | none=>aggDo s tx pl
def zBT (s:ByteArray) (al:List Arg) (pl:List (Arg×List En)) (ok:Nat->Bool) (tx:Int):V :=
 if tx<0∨1024<tx then errG 8
 else if (List.range al.length).all ok then if zBB s (al.map Arg.many) then zCH s tx (al.map Arg.val) pl else errG 8 else errG 8
theorem ite_keyA {α:Type} {p:Prop} [Decidable p] {a r:α} {b:Option α} (h:(if p then some a else b)=some r):a=r∨b=some r:=by
 by_cases hp:p
 ·rw[if_pos hp] at h;exact .inl (Option.some.inj h)
 ·rw[if_neg hp] at h;exact .inr h
theorem aggTab_bounds {s c:ByteArray} {x y:Int} (h:zB4 s=some (c,x,y)):1<=x/\y<=16:=by
 unfold zB4 at h
 iterate 18
  rcases ite_keyA h with e|h
  ·cases e;decide
 cases h
theorem takesA_len {s:ByteArray} {xs:List Bool} (h:zBB s xs=true):∃ c x y,zB4 s=some (c,x,y)/\(x<=(xs.length:Int)/\(xs.length:Int)<=y)/\1<=xs.length/\xs.length<=16/\zB7 c xs xs.length=true:=by
 unfold zBB at h
 cases e:zB4 s with
 | none=>rw[e] at h;cases h
 | some p =>
   obtain⟨c,x,y⟩:=p
   rw[e] at h
   simp only[Bool.and_eq_true,decide_eq_true_eq] at h
   have:=aggTab_bounds e
   exact⟨c,x,y,rfl,h.1,by omega,by omega,h.2⟩
theorem aggs_Call (s:ByteArray) (al:List Arg) (pl:List (Arg×List En)) (hal:al=pl.map Prod.fst) (A:Option Addr) (n c:Nat) (tx:Int) (w:World) (hr:Reads w w.heap.size 11 A n (zBC al)) (hm:n<=1000000000000) (hcap:n<=c) (h64:∀ a∈al,Is64 a.val.num) (ok:Nat->Bool)
  (hok:∀ j a,al[j]? =some a->∀ W,Below w.heap.size w W->Rt 136 #[a.agg] W (.bool (ok j)))
  (hokA:∀ j p,pl[j]? =some p->ok j=zBo p.1 p.2) (hE:∀ p∈pl,zAt w p.1 p.2) (h64e:∀ p∈pl,∀ e∈p.2,Is64 e.v.num) (hT:n<=16->(zA4 pl).length<=20000000) (hsz:∀ q∈pl,q.1.val.str.size<=1048576/\∀ e∈q.2,e.v.str.size<=1048576) (hn9:∀ q∈pl,q.1.n<=1000000000) (hp:zBs w) :
  Rt 97 #[.string s,.slice A n c,.int .i64 tx] w (vG (zBT s al pl ok tx)):=by
 have HALL0:=zh (show (∀ k,k<al.length->ok k=true)->n<=16->(ArgsAt w pl A n/\(zA4 pl).length<=20000000) from fun h h16=>⟨⟨by rw[<- hal];exact hr,hE,by have:=hT h16;omega,hm,fun p hp=>by have:=hn9 p hp;omega,fun p hp=>⟨h64 p.1 (by rw[hal];exact List.mem_map_of_mem hp),h64e p hp⟩,fun p hp=>by
  obtain⟨j,hj⟩:=List.getElem?_of_mem hp
  rw[<- hokA j p hj]
  exact h j (by rw[hal,List.length_map];exact(List.getElem?_eq_some_iff.1 hj).1)⟩,hT h16⟩)
 have HSZ:=zh hsz
 have HN9:=zh hn9
 have HP:=zh hp
 have HAL:=zh hal
 clear hokA hE h64e hT hsz hn9 hp hal
 have hlen:al.length=n:=by
  have:=hr.1
  rw[zAo] at this
  omega
 obtain⟨bs,hbs⟩:∃ bs,bs=(al.map Arg.many).map Value.bool:=⟨_,rfl⟩
 have hbl:bs.length=n:=by rw[hbs];simp[hlen]
 have hbx:∀ (j:Nat) (x:Arg),al[j]? =some x->bs[j]? =some (.bool x.many):=fun j x hx=>by rw[hbs,List.getElem?_map,List.getElem?_map,hx];rfl
 obtain⟨R,hR⟩:∃ R,zBT s al pl ok tx=R:=⟨_,rfl⟩
 rw[hR]
 have HBX:=zh hbx
 have HBS:=zh hbs
 have HR:=zh hr
 have HOK:=zh hok
 have HRX:=zh hR
 have H64:=zh h64
 have HLEN:=zh hlen
 clear hbx hbs hr hok hR h64
 obtain⟨i0,hi,hz0,hz1,hz2⟩:=info_parts info_B
 by_cases ht0:tx<0
 ·have HRR:=zh (show R=errG 8 by rw[<- HRX.out];exact if_pos (.inl ht0))
  go_enter Tryz.func97,Tryz.ntmps97
  go_wp2_with(go_at_call 21;refine mB (zA3 _ _) ?_;intro l3 q3)
  all_goals go_returns
  all_goals exact⟨by rw[HRR.out],bel⟩
 by_cases ht1:1024<tx
 ·have HRR:=zh (show R=errG 8 by rw[<- HRX.out];exact if_pos (.inr ht1))
  go_enter Tryz.func97,Tryz.ntmps97
  go_wp2_with(go_at_call 21;refine mB (zA3 _ _) ?_;intro l3 q3)
  all_goals go_returns
  all_goals exact⟨by rw[HRR.out],bel⟩
 have HRX:=zh (show (if (List.range al.length).all ok then if zBB s (al.map Arg.many) then zCH s tx (al.map Arg.val) pl else errG 8 else errG 8)=R from (if_neg (show ¬ (tx<0∨1024<tx) by omega)).symm.trans HRX.out)
 go_enter Tryz.func97,Tryz.ntmps97
 go_wp2
 go_loopw [23,7] (fun t v wr=>∃ j:Nat,j<=n/\t=.int .i64 j/\(∀ k,k<j->ok k=true)/\zAW (w.alloc zeroV) wr 4 1 v j (bs.take j)) (fun t _ _=>n-(intOf t).toNat)
 case atStart=>exact⟨0,Nat.zero_le _,rfl,fun k hk=>by omega,Below.refl _ _,World.ownsRow_nil _ _ _ _⟩
 case round =>
  obtain⟨j,hj,rfl,hall,hG⟩:=hrel
  have hw0:Below w.heap.size w (w.alloc zeroV):=bel
  have hwr:Below w.heap.size w wr:=hw0.trans (hG.1.mono hw0.size)
  have hws:=hwr.size
  have HWR:=zh hwr
  have HALL:=zh hall
  have HG:=zh hG
  clear hall hG hwr hw0
  by_cases hlt:j<n
  ·obtain⟨a,ha⟩:∃ a,al[j]? =some a:=⟨_,List.getElem?_eq_getElem (show j<al.length by omega)⟩
   obtain⟨bk,off,rfl,_,hc⟩:=HR.out.2 (by omega)
   have hcell:∀ i u,a.cells[i]? =some u->wr.cell? ⟨bk,off+(j*11+i),none⟩=some u:=fun i u hu=>by
    have h1:=hc _ u (zAb al j a ha i u hu)
    exact(HWR.out.cell (p:=⟨bk,_,none⟩) (World.block_lt_of_cell? w _ h1)).trans h1
   have c0:=hcell 0 _ rfl
   have c1:=hcell 1 _ rfl
   have c2:=hcell 2 _ rfl
   have c3:=hcell 3 _ rfl
   have c4:=hcell 4 _ rfl
   have c5:=hcell 5 _ rfl
   have c6:=hcell 6 _ rfl
   have c7:=hcell 7 _ rfl
   have c8:=hcell 8 _ rfl
   have c9:=hcell 9 _ rfl
   have c10:=hcell 10 _ rfl
   simp only[<- Nat.add_assoc,Nat.add_zero] at c0 c1 c2 c3 c4 c5 c6 c7 c8 c9 c10
   have hbr:=cltK c0
   have HCW:=zh (fun i u (hu:a.cells[i]? =some u)=>hc _ u (zAb al j a ha i u hu))
   clear hcell hc
   have HAJ:=zh ha
   have hokj:=HOK.out j a ha
   obtain⟨z,hz⟩:∃ z,ok j=z:=⟨_,rfl⟩
   rw[hz] at hokj
   have HMH:=zh (fun W (hB:Below wr.heap.size wr W)=>hokj W (HWR.out.trans (hB.mono hws)))
   clear hokj ha
   cases z
   ·have HRR:=zh (show R=errG 8 by rw[<- HRX.out,HLEN.out,all_no hlt hz];rfl)
    clear hz
    obtain⟨l0,q0,hwe⟩:=zA0 HG.out.1
    subst hwe
    unfold zeroV at *
    clear c0 c1 c2 c3 c4 c5 c6 c7 c8 c9 c10 hbr
    have c0:=HCW.out 0 _ rfl
    have c1:=HCW.out 1 _ rfl
    have c2:=HCW.out 2 _ rfl
    have c3:=HCW.out 3 _ rfl
    have c4:=HCW.out 4 _ rfl
    have c5:=HCW.out 5 _ rfl
    have c6:=HCW.out 6 _ rfl
    have c7:=HCW.out 7 _ rfl
    have c8:=HCW.out 8 _ rfl
    have c9:=HCW.out 9 _ rfl
    have c10:=HCW.out 10 _ rfl
    simp only[<- Nat.add_assoc,Nat.add_zero] at c0 c1 c2 c3 c4 c5 c6 c7 c8 c9 c10
    have hbw:=cltK c0
    go_wp2_with(first|(go_at_call 136;refine mB (HMH.out _ bel) ?_;intro l2 q2)|(go_at_call 21;refine mB (zA3 _ _) ?_;intro l3 q3))
    all_goals go_returns
    all_goals exact⟨by rw[HRR.out],bel⟩
   ·have HZ:=zh hz
    clear hz
    go_wp2_with(first|(go_at_call 136;refine mB (HMH.out _ bel) ?_;intro l2 q2)|(at_builtin;refine wpList_append_own _ rfl _ _ 132 rfl (w.alloc zeroV).heap.size 4 i0 _ 1 1 Tryz.underlying132 hi hz0 hz1 hz2 rfl (by decide) _ _ _ rfl (own_below HG.out.2 bel) _ 1 1 [.bool a.many] rfl rfl ?_ ?_ ?_ ?_ ?_ ?_))
    ·exact fun i u hu=>zAe (by simp) i u hu
    ·intro u hu;simp only[List.mem_cons,List.not_mem_nil,or_false] at hu;subst hu;rfl
    ·simp only[maxLen];omega
    ·omega
    ·have h1:=HG.out.1.size
     simp at h1 ⊢
     omega
    ·intro v' w3 hown' hgrow _
     have R:=zAW.step HG.out bel (show w3.ownsRow (w.alloc zeroV).heap.size 4 1 v' (j+1) (bs.take j++[.bool a.many]) from by simpa using hown') hgrow
     rw[<- zAn (HBX.out j a HAJ.out)] at R
     have HG':=zh R
     clear hown' hgrow R HG c0 c1 c2 c3 c4 c5 c6 c7 c8 c9 c10
     go_wp2
     go_roundw
     case rel=>exact⟨j+1,by omega,by go_num,fun k hk=>by (by_cases e:k=j;(subst e;exact HZ.out);exact HALL.out k (by omega)),HG'.out⟩
     case measure=>simp[intOf];omega
  ·obtain rfl:j=n:=by omega
   have hG:=HG.out
   rw[List.take_of_length_le (by omega)] at hG
   obtain⟨hB,hO⟩:=hG
   obtain⟨xsB,hxb⟩:∃ xsB,xsB=al.map Arg.many:=⟨_,rfl⟩
   rw[HBS.out,<-hxb] at hO
   obtain⟨A',c',rfl⟩:=zAK hO
   have HRD:=zh (Reads.zB5 hO)
   have hall:(List.range al.length).all ok=true:=by
    rw[HLEN.out,List.all_eq_true]
    intro k hk
    exact HALL.out k (List.mem_range.1 hk)
   have HALL:=zh (show ∀ k,k<al.length->ok k=true from fun k hk=>HALL.out k (by have:=HLEN.out;omega))
   obtain⟨tk,htk⟩:∃ tk,zBB s xsB=tk:=⟨_,rfl⟩
   have hR2:R=if tk then zCH s tx (al.map Arg.val) pl else errG 8:=by rw[<- HRX.out,if_pos hall,<-hxb,htk]
   have HTK:=zh htk
   have hxl:xsB.length=j:=by rw[hxb,List.length_map,HLEN.out]
   have HXL:=zh hxl
   have HXB:=zh hxb
   obtain⟨l0,q0,rfl⟩:=zA0 hB
   clear hO hB HG hall hxb htk hxl HWR hws HOK
   cases tk
   ·have HRR:=zh (show R=errG 8 from hR2)
    clear hR2
    unfold zeroV at *
    go_wp2_with(first|(go_at_call 96;refine(aggs_Takes s A' j c' xsB _ _ HRD.out (by omega)).mono ?_;rw[HTK.out];rintro e w4 ⟨rfl,hb⟩;obtain⟨l4,q4,rfl⟩:=zA0 hb;clear hb)|(go_at_call 21;refine mB (zA3 _ _) ?_;intro l3 q3))
    all_goals go_returns
    all_goals exact⟨by rw[HRR.out],bel⟩
   ·have HR2:=zh (show R=zCH s tx (al.map Arg.val) pl from hR2)
    obtain⟨cK,x,y,ht,hbt,hn1,hn16,hkk⟩:=takesA_len HTK.out
    rw[HXL.out] at hkk
    rw[HXL.out] at hbt hn1 hn16
    have HT:=zh ht
    have HBT:=zh hbt
    clear hR2 ht hbt
    obtain⟨vs,hvs⟩:∃ vs,vs=al.map Arg.val:=⟨_,rfl⟩
    have hva:∀ (j:Nat) (x:Arg),al[j]? =some x->vs[j]? =some x.val:=fun j x hx=>by rw[hvs,List.getElem?_map,hx];rfl
    have hvl:vs.length=j:=by rw[hvs,List.length_map,HLEN.out]
    rw[<- hvs] at HR2
    have HVA:=zh hva
    clear hva hvs
    obtain⟨n,hn⟩:∃ n,n=j:=⟨_,rfl⟩
    subst hn
    go_wp2_with(go_at_call 96;refine(aggs_Takes s A' n c' xsB _ _ HRD.out (by omega)).mono ?_;rw[HTK.out];rintro e w4 ⟨rfl,hb⟩;obtain⟨l4,q4,rfl⟩:=zA0 hb;clear hb)
    go_loopw [44] (fun t wr=>∃ j:Nat,j<=n/\t=.int .i64 j/\(vs.take j).find? isF=none/\Below (w.alloc zeroV).heap.size (w.alloc zeroV) wr) (fun t _=>n-(intOf t).toNat)
    case atStart=>exact⟨0,Nat.zero_le _,rfl,rfl,bel⟩
    case round =>
     obtain⟨j,hj,rfl,hno,hB0⟩:=hrel
     have hw0:Below w.heap.size w (w.alloc zeroV):=bel
     have hwr:Below w.heap.size w wr:=hw0.trans (hB0.mono hw0.size)
     have hws:=hwr.size
     have HWR:=zh hwr
     have HNO:=zh hno
     have HB0:=zh hB0
     clear hno hB0 hwr hw0
     by_cases hlt:j<n
     ·obtain⟨a,ha⟩:∃ a,al[j]? =some a:=⟨_,List.getElem?_eq_getElem (show j<al.length by have:=HLEN.out;omega)⟩
      obtain⟨bk,off,rfl,_,hc⟩:=HR.out.2 (by omega)
      have hcell:∀ i u,a.cells[i]? =some u->wr.cell? ⟨bk,off+(j*11+i),none⟩=some u:=fun i u hu=>by
       have h1:=hc _ u (zAb al j a ha i u hu)
       exact(HWR.out.cell (p:=⟨bk,_,none⟩) (World.block_lt_of_cell? w _ h1)).trans h1
      have c0:=hcell 0 _ rfl
      have c1:=hcell 1 _ rfl
      have c2:=hcell 2 _ rfl
      have c3:=hcell 3 _ rfl
      have c4:=hcell 4 _ rfl
      have c5:=hcell 5 _ rfl
      have c6:=hcell 6 _ rfl
      have c7:=hcell 7 _ rfl
      have c8:=hcell 8 _ rfl
      have c9:=hcell 9 _ rfl
      have c10:=hcell 10 _ rfl
      simp only[<- Nat.add_assoc,Nat.add_zero] at c0 c1 c2 c3 c4 c5 c6 c7 c8 c9 c10
      have hbr:=cltK c0
      have HCW:=zh (fun i u (hu:a.cells[i]? =some u)=>hc _ u (zAb al j a ha i u hu))
      clear hcell hc
      have hvj:=HVA.out j a ha
      clear ha
      by_cases hf:a.val.tag=4
      ·have HRR:=zh (show R=a.val by rw[HR2.out];unfold zCH;rw[find_yes hvj HNO.out (by simp[isF,hf])])
       have hf':(a.val.tag==4)=true:=by simp[hf]
       clear hf hvj
       obtain⟨l0,q0,hwe⟩:=zA0 HB0.out
       subst hwe
       unfold zeroV at *
       clear c0 c1 c2 c3 c4 c5 c6 c7 c8 c9 c10 hbr
       have c0:=HCW.out 0 _ rfl
       have c1:=HCW.out 1 _ rfl
       have c2:=HCW.out 2 _ rfl
       have c3:=HCW.out 3 _ rfl
       have c4:=HCW.out 4 _ rfl
       have c5:=HCW.out 5 _ rfl
       have c6:=HCW.out 6 _ rfl
       have c7:=HCW.out 7 _ rfl
       have c8:=HCW.out 8 _ rfl
       have c9:=HCW.out 9 _ rfl
       have c10:=HCW.out 10 _ rfl
       simp only[<- Nat.add_assoc,Nat.add_zero] at c0 c1 c2 c3 c4 c5 c6 c7 c8 c9 c10
       have hbw:=cltK c0
       go_wp2
       all_goals go_returns
       all_goals exact⟨by rw[HRR.out],bel⟩
      ·have HN2:=zh (find_no hvj HNO.out (by simp[isF,hf]))
       have hf':(a.val.tag==4)=false:=by simp[hf]
       clear hf hvj
       go_wp2
       go_roundw
       case rel=>exact⟨j+1,by omega,by go_num,HN2.out,HB0.out.trans ((show Below wr.heap.size wr _ from bel).mono HB0.out.size)⟩
       case measure=>simp[intOf];omega
     ·obtain rfl:j=n:=by omega
      have hno:=HNO.out
      rw[List.take_of_length_le (by omega)] at hno
      have HR3:=zh (show R=aggDo s tx pl by rw[HR2.out];unfold zCH;rw[hno])
      clear hno HNO
      obtain⟨l5,q5,hwe⟩:=zA0 HB0.out
      subst hwe
      obtain⟨n,hn⟩:∃ n,n=j:=⟨_,rfl⟩
      subst hn
      obtain⟨hPA,hT7⟩:=HALL0.out (fun k hk=>HALL.out k (by have:=HLEN.out;omega)) hn16
      have HPA:=zh hPA
      unfold zeroV at *
      go_wp2_with fail
      go_at_call 135
      refine(zBw s cK x y HT.out _).mono ?_
      rintro e wf ⟨⟨fn,first,cap,rfl,p1,hfn,hk⟩,hb⟩
      obtain⟨l7,q7,rfl⟩:=zA0 hb
      rw[zAO] at hk ⊢
      obtain⟨l,hl⟩:∃ l,l=l5++l7:=⟨_,rfl⟩
      rw[<- hl] at hk ⊢
      clear hb hl
      have hbw:Below w.heap.size w (more (w.alloc zObj) l q7):=bel
      have hlp:pl.length=n:=by have:=HLEN.out;rw[HAL.out,List.length_map] at this;exact this
      have hD:=agg_do HT.out hfn hk pl A n c tx (by omega) (HPA.out.below hbw) hlp HBT.out.1 HBT.out.2 hcap (by have h1:=hkk;rw[HXB.out,HAL.out,List.map_map] at h1;exact h1) hT7 HSZ.out HN9.out (HP.out.below hbw (Nat.le_refl _))
      rw[<- HR3.out] at hD
      rcases hD with ⟨k,rfl,rfl,rfl,hk2,hc⟩|⟨k,p,rfl,rfl,rfl,hk2,hc⟩
      ·have HC:=zh hc
       clear hc hk hfn hbw hPA hT7
       go_wp2_with(with_reducible refine Calls.mono (HC.out _ bel) ?_;rintro e w5 ⟨rfl,hb⟩;obtain⟨l8,q8,rfl⟩:=zA0 hb;clear hb)
       all_goals go_returns
       all_goals exact⟨rfl,bel⟩
      ·have HC:=zh hc
       clear hc hk hfn hbw hPA hT7
       go_wp2_with(with_reducible refine Calls.mono (HC.out _ bel) ?_;rintro e w5 ⟨rfl,hb⟩;obtain⟨l8,q8,rfl⟩:=zA0 hb;clear hb)
       all_goals go_returns
       all_goals exact⟨rfl,bel⟩
end Go.Proofs.YtppghgnhlgoagaaGreatDoor
