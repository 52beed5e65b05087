/- Parts. -/
import Derived.Test.YtnccknhbplaieaaGreatDoorC32
import Derived.Test.YtnccknhbplaieaaGreatDoorC30
import Derived.Test.YtnccknhbplaieaaGreatDoorC31
import Derived.Test.YtnccknhbplaieaaGreatDoorC37
import Derived.Shelf.SlIterI.Sorted
import Derived.Ground.GgzProg
set_option linter.all false
set_option maxRecDepth 100000
set_option maxHeartbeats 4000000
namespace Go.Proofs
open Go.Shelf
def Tryz.sort311_ren:Go.Shelf.Ren:=⟨fun|5=>311|8=>341|7=>340|19=>372|20=>361|10=>363|11=>364|12=>365|13=>366|14=>367|15=>368|16=>369|17=>370|18=>371|30=>391|31=>392|32=>393|33=>394|34=>395|35=>396|40=>404|n=>n,fun|23=>84|25=>2|3=>3|32=>198|22=>84|0=>0|44=>35|46=>133|4=>4|36=>315|35=>314|41=>237|5=>5|9=>9|53=>331|57=>335|63=>345|64=>80|n=>n,fun|n=>n⟩
theorem Tryz.sort311:Go.Proofs.SlLaysM.n5 Tryz.prog Tryz.sort311_ren:= {
 mixed:=by kernel_rfl
 f5:=⟨Tryz.f311.name,by decide,Tryz.func311.trans (congrArg some (by kernel_rfl))⟩
 f7:=⟨Tryz.f340.name,by decide,Tryz.func340.trans (congrArg some (by kernel_rfl))⟩
 f8:=Tryz.func341.trans (congrArg some (by kernel_rfl))
 f10:=⟨Tryz.f363.name,by decide,Tryz.func363.trans (congrArg some (by kernel_rfl))⟩
 f11:=⟨Tryz.f364.name,by decide,Tryz.func364.trans (congrArg some (by kernel_rfl))⟩
 f12:=⟨Tryz.f365.name,by decide,Tryz.func365.trans (congrArg some (by kernel_rfl))⟩
 f13:=⟨Tryz.f366.name,by decide,Tryz.func366.trans (congrArg some (by kernel_rfl))⟩
 f14:=⟨Tryz.f367.name,by decide,Tryz.func367.trans (congrArg some (by kernel_rfl))⟩
 f15:=⟨Tryz.f368.name,by decide,Tryz.func368.trans (congrArg some (by kernel_rfl))⟩
 f16:=⟨Tryz.f369.name,by decide,Tryz.func369.trans (congrArg some (by kernel_rfl))⟩
 f17:=⟨Tryz.f370.name,by decide,Tryz.func370.trans (congrArg some (by kernel_rfl))⟩
 f18:=⟨Tryz.f371.name,by decide,Tryz.func371.trans (congrArg some (by kernel_rfl))⟩
 f19:=Tryz.func372.trans (congrArg some (by kernel_rfl))
 f20:=Tryz.func361.trans (congrArg some (by kernel_rfl))
 f30:=⟨Tryz.f391.name,by decide,Tryz.func391.trans (congrArg some (by kernel_rfl))⟩
 f31:=Tryz.func392.trans (congrArg some (by kernel_rfl))
 f32:=Tryz.func393.trans (congrArg some (by kernel_rfl))
 f33:=⟨Tryz.f394.name,by decide,Tryz.func394.trans (congrArg some (by kernel_rfl))⟩
 f34:=⟨Tryz.f395.name,by decide,Tryz.func395.trans (congrArg some (by kernel_rfl))⟩
 f35:=⟨Tryz.f396.name,by decide,Tryz.func396.trans (congrArg some (by kernel_rfl))⟩
 f40:=⟨Tryz.f404.name,by decide,Tryz.func404.trans (congrArg some (by kernel_rfl))⟩
 t0:=Tryz.underlying0
 a0:=Tryz.isAgg0
 z0:=Tryz.sizeOf0
 v0:=Tryz.zeroValue0
 t3:=Tryz.underlying3
 a3:=Tryz.isAgg3
 z3:=Tryz.sizeOf3
 v3:=Tryz.zeroValue3
 t4:=Tryz.underlying4
 a4:=Tryz.isAgg4
 z4:=Tryz.sizeOf4
 v4:=Tryz.zeroValue4
 t5:=Tryz.underlying5
 a5:=Tryz.isAgg5
 z5:=Tryz.sizeOf5
 v5:=Tryz.zeroValue5
 t9:=Tryz.underlying9
 a9:=Tryz.isAgg9
 z9:=Tryz.sizeOf9
 v9:=Tryz.zeroValue9
 t22:=Tryz.underlying84
 a22:=Tryz.isAgg84
 z22:=Tryz.sizeOf84
 v22:=Tryz.zeroValue84
 t23:=Tryz.underlying84
 a23:=Tryz.isAgg84
 z23:=Tryz.sizeOf84
 v23:=Tryz.zeroValue84
 t25:=Tryz.underlying2
 a25:=Tryz.isAgg2
 z25:=Tryz.sizeOf2
 v25:=Tryz.zeroValue2
 t32:=Tryz.underlying198
 a32:=Tryz.isAgg198
 z32:=Tryz.sizeOf198
 v32:=Tryz.zeroValue198
 t35:=Tryz.underlying314
 a35:=Tryz.isAgg314
 z35:=Tryz.sizeOf314
 v35:=Tryz.zeroValue314
 t36:=Tryz.underlying315
 a36:=Tryz.isAgg315
 z36:=Tryz.sizeOf315
 v36:=Tryz.zeroValue315
 t41:=Tryz.underlying237
 a41:=Tryz.isAgg237
 z41:=Tryz.sizeOf237
 v41:=Tryz.zeroValue237
 t44:=Tryz.underlying35
 a44:=Tryz.isAgg35
 z44:=Tryz.sizeOf35
 v44:=Tryz.zeroValue35
 t46:=Tryz.underlying133
 a46:=Tryz.isAgg133
 z46:=Tryz.sizeOf133
 v46:=Tryz.zeroValue133
 t53:=Tryz.underlying331
 a53:=Tryz.isAgg331
 z53:=Tryz.sizeOf331
 v53:=Tryz.zeroValue331
 t57:=Tryz.underlying335
 a57:=Tryz.isAgg335
 z57:=Tryz.sizeOf335
 v57:=Tryz.zeroValue335
 t63:=Tryz.underlying345
 a63:=Tryz.isAgg345
 z63:=Tryz.sizeOf345
 v63:=Tryz.zeroValue345
 t64:=Tryz.underlying80
 a64:=Tryz.isAgg80
 z64:=Tryz.sizeOf80
 v64:=Tryz.zeroValue80 }
open Go.RowKit Go.Sort Go.Shelf
end Go.Proofs
namespace Go.Proofs.YtnccknhbplaieaaGreatDoor
open Go Go.RowKit Go.Shelf
open Go.Lib renaming hid->zh
attribute [local go_sem] Oper.semAt_some
theorem values_call (A:Option Addr) (n c:Nat) (w:World):Calls Tryz.prog 306 #[.slice A n c] w fun e w'=>e=.returned (.func (.func 339) #[] #[.pointer (some ⟨w.heap.size,0,none⟩)])/\w'=w.alloc (.cells #[.slice A n c] 84):=by
 go_enter Tryz.func306,Tryz.ntmps306;go_wp2;all_goals go_ret;all_goals exact⟨rfl,rfl⟩
theorem values_seq (m:Nat) (h1n:1<=m) (bS bW n2:Nat) (hne:bS≠bW) (hn:bS<n2) (l:List Int) (hml:l.length<=1000000000000) (A:Option Addr) (c B:Nat) (hB:B<=n2) (hBW:B<=bW) (w:World) (hn2w:n2<=w.heap.size) (hr:Reads w B 1 A l.length (I l)) (hs:w.cell? ⟨bS,0,none⟩=some (.slice A l.length c)) :
  SeqT Fence.wide m Tryz.prog 339 #[.pointer (some ⟨bS,0,none⟩)] (fun x:Int=>#[.int .i64 x]) (KeptBut bW n2) (fun xs=>xs=l) l.length w:=by
 intro lp J W hW hJ hY h0;have c1:=(hW.cell (p:=⟨bS,0,none⟩) (show bS<w.heap.size by omega)).trans hs;have hWs:=hW.size;have HR:=zh (show Reads W B 1 A l.length (I l) from hr.below (hW.mono (by omega)));clear hr;refine callsIn_of_wp Tryz.func339 rfl trivial ?_ rfl;simp only[Tryz.ntmps339,List.size_toArray,List.length_cons,List.length_nil,Nat.reduceAdd,Nat.reduceSub,Array.replicate_succ,Array.replicate_zero,List.push_toArray,List.append_toArray,List.nil_append,List.cons_append]
 gi_wp2
 gi_loopw [7] (fun t wr=>∃ (j:Nat),j<=l.length/\t=.int .i64 j/\J (l.take j) wr/\KeptBut bW n2 W wr) (fun t _=>l.length-(intOf t).toNat)
 case atStart=>exact⟨0,Nat.zero_le _,rfl,h0,Nat.le_refl _,fun _ _ _=>rfl⟩
 case round =>
  obtain⟨j,hj,rfl,ha,hK⟩:=hrel;by_cases hlt:j<l.length
  ·obtain⟨x,hx⟩:∃ x,l[j]? =some x:=⟨_,List.getElem?_eq_getElem hlt⟩
   obtain⟨bk,off,rfl,hbB,hc⟩:=HR.out.2 (by omega);have c0:wr.cell? ⟨bk,off+j,none⟩=some (.int .i64 x):=hK.cell (by omega) (by omega) (hc j (.int .i64 x) (by simp[I,hx]));obtain⟨fn,tmps,assign,body,hy,hR⟩:=hY (l.take j) x wr ha (by rw[List.length_take];omega);have HX:=zh hx;have hb:=zh hK;clear hx hc hK
   gi_wp2
   refine hR.mono ?_;rintro e W2 ⟨rfl,he,hd⟩
   gi_wp2
   go_roundw;case rel=>exact⟨j+1,by omega,by go_num,by rw[zAJ HX.out];exact he,Nat.le_trans hb.out.1 hd.1,fun k h1 h2=>(hd.2 k h1 h2).trans (hb.out.2 k h1 h2)⟩
   case measure=>simp[intOf];omega
  ·obtain rfl:j=l.length:=by omega
   rw[List.take_of_length_le (Nat.le_refl _)] at ha
   gi_wp2
   go_end0
   exact⟨⟨_,rfl⟩,l,rfl,ha⟩
theorem append_seq (l:List Int) (hml:l.length<=1000000000000) (A:Option Addr) (c bS:Nat) (w:World) (hr:Reads w w.heap.size 1 A l.length (I l)) (hs:w.cell? ⟨bS,0,none⟩=some (.slice A l.length c)) (hbS:bS<w.heap.size) :
  Calls Tryz.prog 362 #[.slice none 0 0,.func (.func 339) #[] #[.pointer (some ⟨bS,0,none⟩)]] w fun e w'=>∃ v,e=.returned v/\w'.ownsRow w.heap.size 2 1 v l.length (I l)/\Below w.heap.size w w':=by
 obtain⟨i0,hi,hz,hA,hC⟩:=info_parts info_I;refine(callsIn_wide (n:=4)).1 ?_;refine callsIn_of_wp_marks Tryz.func362 rfl trivial ?_ rfl;simp only[Tryz.ntmps362,List.size_toArray,List.length_cons,List.length_nil,Nat.reduceAdd,Nat.reduceSub,Array.replicate_succ,Array.replicate_zero,List.push_toArray,List.append_toArray,List.nil_append,List.cons_append]
 gi_wp2
 obtain⟨W0,hh⟩:=lt_ (w.alloc (.cells #[.slice none 0 0] 84));have hsz:W0.heap.size=w.heap.size+1:=by rw[<- hh];simp
 have hk:Below w.heap.size w W0:=by rw[<- hh];exact bel
 have bW:Boxed W0 w.heap.size 84 (.slice none 0 0):=by rw[<- hh];exact Boxed.new w _ _
 have k1:W0.cell? ⟨bS,0,none⟩=some (.slice A l.length c):=cell_below hs hk;have hp:=values_seq 3 (by decide) bS w.heap.size (w.heap.size+1) (by omega) (by omega) l hml A c w.heap.size (by omega) (by omega) W0 (by omega) (hr.below hk) k1;rw[hh];refine range_ownT rfl (by decide) (gf:=339) (lb:=#[.pointer (some ⟨bS,0,none⟩)]) rfl trivial (enters_of Tryz.func339 (by kernel_rfl) rfl) hp ?kt ?kb (fun _=>rfl)
  (fun pre W=>(∃ v,Boxed W w.heap.size 84 v/\W.ownsRow W0.heap.size 2 1 v pre.length (I pre))/\Below w.heap.size w W/\W0.heap.size<=W.heap.size) ?own ?start
  (fun x=> { tmps:=#[.slice none 0 0,.func (.func 339) #[] #[.pointer (some ⟨bS,0,none⟩)],.pointer (some ⟨w.heap.size,0,none⟩),undef,.slice none 0 0,.int .i64 x,.func (.func 339) #[] #[.pointer (some ⟨bS,0,none⟩)],.int .i64 x,undef,undef,undef,undef,undef],defers:=[] }) ?assign ?body ?done
 case kt=>exact fun h k=>⟨Nat.le_trans h.1 k.1,fun j hj h2=>(k.2 j hj h2).trans (h.2 j hj h2)⟩
 case kb=>exact fun W l o' hl=>⟨by simp[World.putObj],fun j _ h2=>World.putObj_heap_other (by omega)⟩
 case own =>
  rintro pre A B row ⟨⟨v,hv,hr⟩,hb,he⟩ hg ha;refine⟨⟨v,hv.kept hg (fun e=> ?_),hr.kept hg ?_⟩,hb.grown hg (by have:=hb.size;omega) (fun k e=> ?_),by have:=hg.size;omega⟩
  ·have h:=ha _ e.symm;omega
  ·rcases hr.2 with ⟨rfl,_⟩|⟨g,cap,cur,rfl,hu,hm,_⟩
   ·exact .inl rfl
   ·refine .inr fun e'=> ?_;obtain⟨_,o,ho,hc⟩:=ha g e'.symm;rw[hm] at ho;cases ho;cases hc
  ·have h:=ha _ e;omega
 case start=>exact⟨⟨_,bW,World.ownsRow_nil _ _ _ _⟩,hk,Nat.le_refl _⟩
 case assign =>
  intro l x W K hK
  gi_wp2
  exact hK
 case body =>
  rintro lp pre x W ⟨⟨v,hv,ha⟩,hB,he⟩ hlt;have hc:=hv.cell;have hml:maxLen=9223372036854775807:=by decide
  gi_wp2_with (gi_at_builtin;refine wpListIn_append_own _ rfl _ _ 84 rfl W0.heap.size 2 i0 (.int .i64 0) 1 8 Tryz.underlying84 hi hz hA hC rfl (by decide) _ _ _ rfl (ha.alloc _) ⟨W.heap.size,0,none⟩ 1 1 [.int .i64 x] rfl rfl (cell_one_new _ _ _) (by simp[Value.oneCell']) (by omega) (by omega) (by simp;omega) ?_;intro v' w1 hd hf _;obtain⟨g',cap',rfl⟩:=ownsRow_succ hd;obtain⟨hq,hy,hx,hw,ht,hn⟩:=box_appended (b0:=w.heap.size) hv (by decide) ha he (Nat.le_refl _) (by omega) hd hf;have hc1:=hq.cell;have hf1:=hq.frozen)
  exact⟨hw,⟨hn.1,fun j hj h3=>hn.2 j hj (by omega)⟩,⟨_,hy,by simpa [I] using hx⟩,hB.trans ht,by have:=hn.1;omega⟩
 case done =>
  rintro D ys W hD rfl ⟨⟨v,hv,ha⟩,hB,he⟩ hK;have hc:=hv.cell
  gi_wp2_with (refine⟨trivial,?_⟩)
  refine⟨by simp,.inl ⟨_,_,rfl,run_takeDeferred hK,?_⟩⟩;refine⟨_,results_tmp rfl _ _ _,v,rfl,?_,?_⟩
  ·refine own_base (ha.kept (grownBy_putObj' W D _) ?_) (by omega);rcases ha.2 with ⟨rfl,_⟩|⟨g,cap,cur,rfl,hu,hm,_⟩
   ·exact .inl rfl
   ·refine .inr fun e'=> ?_;have e2:g=D:=by simpa [Value.ownBlock] using e'
    subst e2;rw[hm] at hK;cases hK
  ·exact hB.trans (belowK_b (w:=w) (Nat.le_refl _) W D _ _ (by omega) hK rfl rfl)
theorem collect_call (l:List Int) (hml:l.length<=1000000000000) (A:Option Addr) (c bS:Nat) (w:World) (hr:Reads w w.heap.size 1 A l.length (I l)) (hs:w.cell? ⟨bS,0,none⟩=some (.slice A l.length c)) (hbS:bS<w.heap.size) :
  Calls Tryz.prog 338 #[.func (.func 339) #[] #[.pointer (some ⟨bS,0,none⟩)]] w fun e w'=>∃ A' c',e=.returned (.slice A' l.length c')/\w'.ownsRow w.heap.size 2 1 (.slice A' l.length c') l.length (I l)/\Below w.heap.size w w':=by
 have HA:=zh (append_seq l hml A c bS w hr hs hbS);obtain⟨n,hn⟩:∃ n,n=l.length:=⟨_,rfl⟩
 rw[<- hn] at HA ⊢;clear hr hs hml hn;go_enter Tryz.func338,Tryz.ntmps338;go_wp2_with(go_at_call 362;refine HA.out.mono ?_;rintro e w1 ⟨v,rfl,ho,hb⟩;obtain⟨A',c',rfl⟩:=zAB ho;have HO:=zh ho;have HB:=zh hb;clear ho hb)
 all_goals go_ret;all_goals exact⟨_,_,rfl,HO.out,HB.out⟩
def sortG (l:List Int):List Int:=l.mergeSort fun x y=>decide (x<=y)
theorem zAM (l:List Int):(sortG l).length=l.length:=List.length_mergeSort _
theorem sortG_mem (l:List Int) (x:Int):x∈sortG l ↔ x∈l:=List.mem_mergeSort
theorem sort_own (l:List Int) (hml:l.length<=1000000000000) (A:Option Addr) (c base b0:Nat) (w0 w:World) (h0:Below b0 w0 w) (hb0:b0<=base) (hsz:b0<=w0.heap.size) (ho:w.ownsRow base 2 1 (.slice A l.length c) l.length (I l)) :
  Calls Tryz.prog 311 #[.slice A l.length c] w fun e w'=>e=.returned (.tuple #[])/\w'.ownsRow base 2 1 (.slice A l.length c) l.length (I (sortG l))/\Below b0 w0 w':=by
 rcases ho.2 with ⟨h1,hz⟩|⟨gb,cap,cur,h1,ha,hb,r1,r2,r3,r4⟩
 ·have hl:l=[]:=List.eq_nil_of_length_eq_zero hz;subst hl;refine(AnyM.slices_Sort_int_none Tryz.sort311 A c w).mono ?_;rintro e w' ⟨rfl,rfl⟩;exact⟨rfl,by rw[show sortG []=[] from by simp[sortG]];exact ho,h0⟩
 ·injection h1 with h1 h2 h3;subst h1 h3;have hH:Go.Sort.Holds encZ w gb 0 l.toArray:=holds_of_block_i hb (by simpa [I] using r4);have hc:gb<w.heap.size:=(Array.getElem?_eq_some_iff.1 hb).1;refine(AnyM.slices_Sort_int Tryz.sort311 gb 0 c l w hH hc (by omega)).mono ?_;rintro e w' ⟨rfl,nn,os,rfl⟩;have hs:=ownsRow_sorted_i (n:=nn) (os:=os) (ss:=l) (ts:=sortG l) (zAM l) ha hb r1 r2 r3;exact⟨rfl,hs,h0.grown (grownBy_sorted_i _) (Nat.le_trans hsz h0.size) (fun j hj=>by cases hj;omega)⟩
theorem sorted_call (l:List Int) (hml:l.length<=1000000000000) (A:Option Addr) (c bS:Nat) (w:World) (hr:Reads w w.heap.size 1 A l.length (I l)) (hs:w.cell? ⟨bS,0,none⟩=some (.slice A l.length c)) (hbS:bS<w.heap.size) :
  Calls Tryz.prog 305 #[.func (.func 339) #[] #[.pointer (some ⟨bS,0,none⟩)]] w fun e w'=>∃ A' c',e=.returned (.slice A' l.length c')/\w'.ownsRow w.heap.size 2 1 (.slice A' l.length c') l.length (I (sortG l))/\Below w.heap.size w w':=by
 have HA:=zh (collect_call l hml A c bS w hr hs hbS);have HS:=zh (fun A c w' h0 ho=>sort_own l hml A c w.heap.size w.heap.size w w' h0 (Nat.le_refl _) (Nat.le_refl _) ho);obtain⟨n,hn⟩:∃ n,n=l.length:=⟨_,rfl⟩
 rw[<- hn] at HA HS ⊢;clear hr hs hml hn;go_enter Tryz.func305,Tryz.ntmps305;go_wp2_with(first|(go_at_call 338;refine HA.out.mono ?_;rintro e w1 ⟨A',c',rfl,ho,hb⟩;have HO:=zh ho;have HB:=zh hb;clear ho hb)|(go_at_call 311;refine(HS.out _ _ _ HB.out HO.out).mono ?_;rintro e w2 ⟨rfl,ho,hb⟩;have hc:=zh ho;have ha:=zh hb;clear ho hb))
 all_goals go_ret;all_goals exact⟨_,_,rfl,hc.out,ha.out⟩
theorem own_cap {w:World} {base e size n c:Nat} {A:Option Addr} {xs:List Value} (h:w.ownsRow base e size (.slice A n c) n xs) (hn:0<n):n<=c:=by
 rcases h.2 with ⟨_,h2⟩|⟨g,cap,cur,e1,hg,hh,h1,_⟩
 ·omega
 ·injection e1 with _ _ e3;omega
def medianG (l:List Int):Int:=if l.length % 2=1 then (sortG l).getD (l.length / 2) 0 else meanG (((sortG l).drop (l.length / 2-1)).take 2)
theorem Reads.cut {w:World} {B:Nat} {A:Option Addr} {l:List Int} {n:Nat} (h:Reads w B 1 A n (I l)) {i m:Nat} (hm:0<m) (him:i+m<=n):∃ b off,A=some ⟨b,off,none⟩/\Reads w B 1 (some ⟨b,off+i,none⟩) m (I ((l.drop i).take m)):=by
 have h1:=h.1;obtain⟨b,off,rfl,hb,hc⟩:=h.2 (by omega);refine⟨b,off,rfl,?_,fun _=>⟨b,off+i,rfl,hb,fun j u hu=> ?_⟩⟩
 ·simp[I] at h1 ⊢;omega
 ·have:=hc (i+j) u (by
   simp only[I,List.map_take,List.map_drop] at hu ⊢;have hj:j<m:=by
    have:=(List.getElem?_eq_some_iff.1 hu).1;rw[List.length_take] at this;omega
   rw[List.getElem?_take_of_lt hj,List.getElem?_drop] at hu;exact hu)
  rw[show off+i+j=off+(i+j) by omega];exact this
theorem aggs_median (l:List Int) (A:Option Addr) (c:Nat) (w:World) (hr:Reads w w.heap.size 1 A l.length (I l)) (hn:0<l.length) (hml:l.length<=1000000000000) (h63:∀ x∈l,In63 x) :
  Rt 238 #[.slice A l.length c] w (.int .i64 (medianG l)):=by
 have HS:=zh (fun bS W (hb:Below w.heap.size w W) hs hbS=>sorted_call l hml A c bS W ((hr.below hb).lift hb.size) hs hbS);obtain⟨s,hs⟩:=lt_ (sortG l);have hc:∀ x∈s,In63 x:=fun x hx=>h63 x ((sortG_mem l x).1 (by rw[hs];exact hx));have hj:s.length=l.length:=by rw[<- hs];exact zAM l
 unfold medianG;rw[hs] at HS ⊢;obtain⟨n,hd⟩:∃ n,n=l.length:=⟨_,rfl⟩
 rw[<- hd] at HS hj hn hml ⊢;clear hr h63 hs hd;obtain⟨k,hk⟩:∃ k,k=n / 2:=⟨_,rfl⟩
 have hq:(n:Int) / 2=(k:Int):=by omega
 rw[<- hk];have hkn:k<n:=by omega
 by_cases hodd:n % 2=1
 ·rw[if_pos hodd];have hi:(n:Int) % 2=1:=by omega
  have hI:(I s)[k]? =some (.int .i64 (s.getD k 0)):=by
   rw[List.getD_eq_getElem?_getD];simp[I,List.getElem?_eq_getElem (show k<s.length by omega)]
  obtain⟨r,hr⟩:=lt_ (s.getD k 0);rw[hr] at hI ⊢;have HI:=zh hI;clear hodd hk hI hr;go_enter Tryz.func238,Tryz.ntmps238;go_wp2_with(first|(go_at_call 306;refine(values_call _ _ _ _).mono ?_;rintro e w1 ⟨rfl,rfl⟩)|(go_at_call 305;refine(HS.out _ _ bel (by go_simp) (by simp)).mono ?_;rintro e w2 ⟨A',c',rfl,ho,hb⟩;obtain⟨g,c2,e2,hh,hg,hx⟩:=zAR ho hn;injection e2 with e3 _ e5;subst e3 e5;have c0:=hx k _ HI.out;have HB:=zh hb;clear ho hb hx))
  all_goals go_ret;all_goals exact⟨rfl,HB.out.mono (by simp) |> (show Below w.heap.size w _ from bel).trans⟩
 ·rw[if_neg hodd];have hi:(n:Int) % 2=0:=by omega
  have hk1:1<=k:=by omega
  obtain⟨i,rfl⟩:∃ i,k=i+1:=⟨k-1,by omega⟩
  rw[show i+1-1=i by omega];have HM:=zh (fun W A' B' (h:Reads W B' 1 A' 2 (I ((s.drop i).take 2))) c'=>aggs_mean ((s.drop i).take 2) A' 2 c' B' W h (by decide) (by decide) (fun x hx=>hc x (List.mem_of_mem_drop (List.mem_of_mem_take hx))));obtain⟨r,hr⟩:=lt_ (meanG ((s.drop i).take 2));rw[hr] at HM ⊢;clear hodd hk hr;go_enter Tryz.func238,Tryz.ntmps238;go_wp2_with(first|(go_at_call 306;refine(values_call _ _ _ _).mono ?_;rintro e w1 ⟨rfl,rfl⟩)|(go_at_call 305;refine(HS.out _ _ bel (by go_simp) (by simp)).mono ?_;rintro e w2 ⟨A',c',rfl,ho,hb⟩;have hf:=own_cap ho hn;obtain⟨g,c2,e2,hh,hg,hx⟩:=zAR ho hn;injection e2 with e3 _ e5;subst e3 e5;have HO:=zh ho;have HB:=zh hb;clear ho hb hx))
  rw[show i+1+1-i=2 by omega];obtain⟨b',off',e',ha⟩:=Reads.cut (Reads.zAC HO.out) (i:=i) (m:=2) (by decide) (by omega);cases e';rw[Nat.zero_add] at ha;refine Calls.mono (HM.out _ _ _ ha _) ?_;rintro e w3 ⟨rfl,hb⟩;have he:=zh hb;clear hb ha;go_wp2;all_goals go_ret;all_goals exact⟨rfl,((show Below w.heap.size w _ from bel).trans (HB.out.mono (by simp))).trans (he.out.mono (by have:=HB.out.size;simp at this;omega))⟩
end Go.Proofs.YtnccknhbplaieaaGreatDoor
namespace Go.Proofs.YtnccknhbplaieaaGreatDoor
open Go Go.RowKit Go.Proofs.Tryz
open Go.Lib renaming hid->zh
def largeG (p:Arg×List En) (v1:V):V :=
 if (intG v1).2≠0 then errG (intG v1).2 else if (zA9 (zA2 [p])).2.tag=4 then (zA9 (zA2 [p])).2
 else if (intG v1).1<1 then errG 5 else if ((zA9 (zA2 [p])).1.length:Int)<(intG v1).1 then errG 5
 else numG ((sortG (zA9 (zA2 [p])).1).getD ((zA9 (zA2 [p])).1.length-(intG v1).1.toNat) 0)
theorem aggs_LARGE (a0 a1:Arg) (es:List En) (b off c:Nat) (tx:Int) (w:World) (hc1:∀ i u,a1.cells[i]? =some u->w.cell? ⟨b,off+11+i,none⟩=some u) (hP:ArgsAt w [(a0,es)] (some ⟨b,off,none⟩) 1) (hcap:2<=c) (h1:Is64 a1.val.num) :
  Rt 248 #[.slice (some ⟨b,off,none⟩) 2 c,.int .i64 tx] w (vG (largeG (a0,es) a1.val)):=by
 have HI:=zh (fun W (hb:Below w.heap.size w W) c'=>aggs_items [(a0,es)] (some ⟨b,off,none⟩) 1 c' W.heap.size W (hP.below hb).hr (hP.below hb).hE hP.hT hP.hm hP.hnn);have HA:=zh (fun A' c' B' W (h:Reads W B' 5 A' (zA2 [(a0,es)]).length (flat (zA2 [(a0,es)])))=>aggs_among (zA2 [(a0,es)]) A' (zA2 [(a0,es)]).length c' B' W h hP.hT);have hd:=zh (aggs_integer a1.val h1);have hT:=hP.hT;have hc:=among_le (zA2 [(a0,es)]);obtain⟨d1,d2,d3,d4,d5⟩:=tkV hc1;have hb:=cltK d1;have hb1:b<w.heap.size+1:=by omega
 unfold largeG;obtain⟨us,hL⟩:=lt_ (zA2 [(a0,es)]);rw[hL] at HI HA hT hc;rw[hL];obtain⟨ls,hp⟩:=lt_ ((zA9 us).1);obtain⟨f,hj⟩:=lt_ ((zA9 us).2);simp only[hp,hj] at HA hc ⊢;obtain⟨k,hk⟩:=lt_ ((intG a1.val).1);obtain⟨ck,he⟩:=lt_ ((intG a1.val).2);rw[hk,he] at hd;rw[hk,he];clear hc1 hP h1 hL hp hj hk he;by_cases h1:ck=0
 subst h1;rw[if_neg (by simp)];by_cases h4:f.tag=4
 have hu:(f.tag==4)=true:=by simp[h4]
 rw[if_pos h4];clear h4
 rotate_left
 have hu:(f.tag==4)=false:=by simp[h4]
 rw[if_neg h4];by_cases g1:k<1
 have g1':(decide (k<1))=true:=decide_eq_true g1;rw[if_pos g1];clear g1 h4
 rotate_left
 have g1':(decide (k<1))=false:=decide_eq_false g1;rw[if_neg g1];by_cases g2:(ls.length:Int)<k
 have g2':(decide ((ls.length:Int)<k))=true:=decide_eq_true g2;rw[if_pos g2];clear g1 g2 h4
 rotate_left
 ·have g2':(decide ((ls.length:Int)<k))=false:=decide_eq_false g2;rw[if_neg g2];have HS:=zh (fun A c base W h0 hb0 ho=>sort_own ls (by omega) A c base (w.alloc zObj).heap.size (w.alloc zObj) W h0 hb0 (Nat.le_refl _) ho);obtain⟨sl,hf⟩:=lt_ (sortG ls);have hs:sl.length=ls.length:=by rw[<- hf];exact zAM ls
  rw[hf] at HS ⊢;obtain⟨n,hn⟩:=lt_ ls.length;rw[hn] at HS HA hc hs g2 g2' ⊢;obtain⟨i0,hl⟩:∃ i0,i0=n-k.toNat:=⟨_,rfl⟩
  rw[<- hl];have hin:i0<n:=by omega
  have hv:0<n:=by omega
  have s1:wrap64 ((n:Int)-k)=(i0:Int):=by rw[wr64]<;>omega
  have hI:(I sl)[i0]? =some (.int .i64 (sl.getD i0 0)):=by
   rw[List.getD_eq_getElem?_getD];simp[I,List.getElem?_eq_getElem (show i0<sl.length by omega)]
  obtain⟨r,hr⟩:=lt_ (sl.getD i0 0);rw[hr] at hI ⊢;have ht:=zh hI;clear g1 g2 h4 hf hn hl hs hI hr hc;go_enter func248,ntmps248;go_wp2_with(first|(go_at_call_of 310 (Value.agg #[Value.int .i64 (a1.val).tag,Value.int .i64 (a1.val).num,Value.string (a1.val).str,Value.bool (a1.val).is,Value.int .i64 (a1.val).code]);refine mB (hd.out _) ?_;intro m1 r1)|(go_at_call 299;refine(HI.out _ bel _).mono ?_;rintro e w1 ⟨v,rfl,ho,hb⟩;obtain⟨Ai,ci,rfl⟩:=zAB ho;obtain⟨l1,q1,rfl⟩:=zA0 hb;clear hb;(try simp only[zAQ,List.append_assoc] at ho);have HO:=zh ho;clear ho)|(go_at_call 298;refine(HA.out _ _ _ _ (Reads.zAC HO.out)).mono ?_;rintro e w2 ⟨v,rfl,ha,hb⟩;obtain⟨Aj,cj,rfl⟩:=zAB ha;obtain⟨l2,q2,rfl⟩:=zA0 hb;clear hb;simp only[zAQ,List.append_assoc] at ha;have hh:=zh ha;clear ha)|(go_at_call 311;refine(HS.out _ _ _ _ bel (by simp) (own_below hh.out bel)).mono ?_;rintro e w5 ⟨rfl,hq,hi⟩;obtain⟨ln,qn,rfl⟩:=zA0 hi;obtain⟨g,c2,e2,hgb,hg,hx⟩:=zAR hq hv;injection e2 with e3 _ e5;subst e3 e5;have x0:=hx i0 _ ht.out;clear hi hq hx)|(go_at_call 140;refine mB (zB2 _ _) ?_;intro l3 q3))
  all_goals(go_returns;exact rb_)
 have h1':(ck != 0)=true:=by simpa using h1
 rw[if_pos h1];clear h1;all_goals
  go_enter func248,ntmps248;go_wp2_with(first|(go_at_call_of 310 (Value.agg #[Value.int .i64 (a1.val).tag,Value.int .i64 (a1.val).num,Value.string (a1.val).str,Value.bool (a1.val).is,Value.int .i64 (a1.val).code]);refine mB (hd.out _) ?_;intro m1 r1)|(go_at_call 299;refine(HI.out _ bel _).mono ?_;rintro e w1 ⟨v,rfl,ho,hb⟩;obtain⟨Ai,ci,rfl⟩:=zAB ho;obtain⟨l1,q1,rfl⟩:=zA0 hb;clear hb;(try simp only[zAQ,List.append_assoc] at ho);have HO:=zh ho;clear ho)|(go_at_call 298;refine(HA.out _ _ _ _ (Reads.zAC HO.out)).mono ?_;rintro e w2 ⟨v,rfl,ha,hb⟩;obtain⟨Aj,cj,rfl⟩:=zAB ha;obtain⟨l2,q2,rfl⟩:=zA0 hb;clear hb;simp only[zAQ,List.append_assoc] at ha;have hh:=zh ha;clear ha)|(go_at_call 13;refine mB (zA3 _ _) ?_;intro l3 q3))
  all_goals(go_returns;exact rb_)
def joinS (by':ByteArray) (l:List ByteArray):ByteArray:=⟨(Lib.join (l.map (·.data.toList)) by'.data.toList).toArray⟩
def joinGo (tx:Int) (by':ByteArray):Int->List V->List ByteArray->V
 | _,[],l=>txtG (joinS by' l)
 | n,v::r,l=>if v.tag=0 then joinGo tx by' n r l else if tx<n+((by'.size:Int)+((zAZ v).1.size:Int)) then errG 7 else joinGo tx by' (n+((by'.size:Int)+((zAZ v).1.size:Int))) r (l++[(zAZ v).1])
def joinG (tx:Int) (p:Arg×List En) (pl:List (Arg×List En)):V :=
 if (zA9 (zA2 pl)).2.tag=4 then (zA9 (zA2 pl)).2 else joinGo tx (zAZ p.1.val).1 (-((zAZ p.1.val).1.size:Int)) (zA2 pl) []
theorem join_any (ws:List ByteArray) (sep:ByteArray) (v:Value) (base:Nat) (w:World) (h:w.ownsRow base 9 1 v ws.length (ws.map Value.string)) (hl:ws.length<=20000000) (hx:∀ x∈ws,x.size<=1048576) (hs:sep.size<=1048576) :
  Rt 284 #[v,.string sep] w (.string (joinS sep ws)):=by
 have ha:(Lib.join (ws.map (·.data.toList)) sep.data.toList).length<=140737488355328:=by
  have h1:=join_le sep.data.toList 1048576 (ws.map (·.data.toList)) (fun x hx2=>by
   obtain⟨y,hy,rfl⟩:=List.mem_map.1 hx2;rw[Array.length_toList];exact hx y hy)
  rw[List.length_map] at h1;have hss:sep.data.toList.length<=1048576:=by rw[Array.length_toList];exact hs
  have h2:ws.length*(1048576+sep.data.toList.length)<=20000000*(1048576+1048576):=Nat.mul_le_mul hl (by omega);omega
 rcases h.2 with ⟨rfl,h0⟩|⟨g,cap,cur,rfl,hb,hg,hd,_,_,_⟩
 ·obtain rfl:ws=[]:=List.length_eq_zero_iff.1 h0;refine(Tryz.strings_Join_none none 0 sep w).mono ?_;rintro e w' ⟨rfl,rfl⟩;exact⟨rfl,Below.refl _ _⟩
 ·have hc:g<w.heap.size:=(Array.getElem?_eq_some_iff.1 hg).1;exact Tryz.strings_Join g 0 cap ws sep w (fun j x hj=>by
   have:=h.cells (g:=g) rfl j (.string x) (by simp[hj]);have e:(⟨g,0,none⟩:Addr).add j=⟨g,0+j,none⟩:=by unfold Addr.add;split<;>simp_all
   rw[e] at this;exact this) hc (by omega) hd ha
theorem aggs_JOIN (a0:Arg) (es0:List En) (pl:List (Arg×List En)) (n b off c:Nat) (tx:Int) (htx: -1<=tx/\tx<=1024) (w:World) (hc0:∀ i u,a0.cells[i]? =some u->w.cell? ⟨b,off+0+i,none⟩=some u) (hP:ArgsAt w pl (some ⟨b,off+11,none⟩) n) (hn1:1<=n) (hcap:n+1<=c) (h1:Is64 a0.val.num) (hs0:a0.val.str.size<=1048576) (hsz:∀ v∈zA2 pl,v.str.size<=1048576) (hT7:(zA2 pl).length<=20000000) (hp:Pow10 w) :
  Rt 249 #[.slice (some ⟨b,off,none⟩) (n+1) c,.int .i64 tx] w (vG (joinG tx (a0,es0) pl)):=by
 have HI:=zh (fun W (hb:Below w.heap.size w W) c'=>aggs_items pl (some ⟨b,off+11,none⟩) n c' W.heap.size W (hP.below hb).hr (hP.below hb).hE hP.hT hP.hm hP.hnn);have HA:=zh (fun A' c' B' W (h:Reads W B' 5 A' (zA2 pl).length (flat (zA2 pl)))=>aggs_among (zA2 pl) A' (zA2 pl).length c' B' W h hP.hT);have HP:=zh hp;have hm:=hP.hm;obtain⟨cc,rfl⟩:∃ cc,c=cc+2:=⟨c-2,by omega⟩
 have HM:=zh (items_may hP);have hX:=zh hsz;have hA:=zh (fun W (h:Pow10 W)=>value_AsText a0.val h1 W h);have hY:=asTxt_size a0.val h1 hs0;obtain⟨c1,c2,c3,c4,c5⟩:=tkV hc0;have hb:=cltK c1;have hb1:b<w.heap.size+1:=by omega
 simp only[Nat.add_zero] at c1 c2 c3 c4 c5;unfold joinG;obtain⟨us,hL⟩:=lt_ (zA2 pl);rw[hL] at HI HA HM hX hT7;rw[hL];obtain⟨ls,Hb⟩:=lt_ ((zA9 us).1);obtain⟨f,hZ⟩:=lt_ ((zA9 us).2);simp only[Hb,hZ] at HA ⊢;obtain⟨sp,Hc⟩:=lt_ ((zAZ a0.val).1);rw[Hc] at hA hY ⊢;clear hc0 hP h1 hL Hb hZ Hc hs0 hsz hp;by_cases h4:f.tag=4
 ·have Hm:(f.tag==4)=true:=by simp[h4]
  rw[if_pos h4];clear h4;go_enter func249,ntmps249;go_wp2_with(first|(go_at_call_of 151 (Value.agg #[Value.int .i64 (a0.val).tag,Value.int .i64 (a0.val).num,Value.string (a0.val).str,Value.bool (a0.val).is,Value.int .i64 (a0.val).code]);refine mB (hA.out _ (HP.out.below bel (Nat.le_refl _))) ?_;intro m0 r0)|(go_at_call 299;refine(HI.out _ bel _).mono ?_;rintro e w1 ⟨v,rfl,ho,hb⟩;obtain⟨Ai,ci,rfl⟩:=zAB ho;obtain⟨l1,q1,rfl⟩:=zA0 hb;clear hb;(try simp only[zAQ,List.append_assoc] at ho);have HO:=zh ho;clear ho)|(go_at_call 298;refine(HA.out _ _ _ _ (Reads.zAC HO.out)).mono ?_;rintro e w2 ⟨v,rfl,hd,hb⟩;obtain⟨Aj,cj,rfl⟩:=zAB hd;obtain⟨l2,q2,rfl⟩:=zA0 hb;clear hb;simp only[zAQ,List.append_assoc] at hd;have hU:=zh hd;clear hd))
  all_goals(go_returns;exact rb_)
 ·have Hm:(f.tag==4)=false:=by simp[h4]
  rw[if_neg h4];obtain⟨R,hR⟩:=lt_ (joinGo tx sp (-(sp.size:Int)) us []);rw[hR];have Hk:=zh hR;have s0:wrap64 (-(sp.size:Int))= -(sp.size:Int):=wrn _ (by omega);clear h4 hR;go_enter func249,ntmps249;obtain⟨iS,hiS,hJ,hM,hN⟩:=info_parts info_S;go_wp2_with(first|(go_at_call_of 151 (Value.agg #[Value.int .i64 (a0.val).tag,Value.int .i64 (a0.val).num,Value.string (a0.val).str,Value.bool (a0.val).is,Value.int .i64 (a0.val).code]);refine mB (hA.out _ (HP.out.below bel (Nat.le_refl _))) ?_;intro m0 r0)|(go_at_call 299;refine(HI.out _ bel _).mono ?_;rintro e w1 ⟨v,rfl,ho,hb⟩;obtain⟨Ai,ci,rfl⟩:=zAB ho;obtain⟨l1,q1,rfl⟩:=zA0 hb;clear hb;(try simp only[zAQ,List.append_assoc] at ho);have HO:=zh ho;clear ho)|(go_at_call 298;refine(HA.out _ _ _ _ (Reads.zAC HO.out)).mono ?_;rintro e w2 ⟨v,rfl,hd,hb⟩;obtain⟨Aj,cj,rfl⟩:=zAB hd;obtain⟨l2,q2,rfl⟩:=zA0 hb;clear hb;simp only[zAQ,List.append_assoc] at hd;have hU:=zh hd;clear hd))
  obtain⟨WX,hq⟩:∃ WX,WX=(more (w.alloc zObj) (m0++(l1++l2)) q2).alloc (.cells #[.int .i64 f.tag,.int .i64 f.num,.string f.str,.bool f.is,.int .i64 f.code] 29):=⟨_,rfl⟩
  have Hl:=zh hq;have hS:=zh (show Below (w.alloc zObj).heap.size (w.alloc zObj) WX by rw[hq];exact bel);have hF:Below (more (w.alloc zObj) (m0++l1) q1).heap.size (more (w.alloc zObj) (m0++l1) q1) WX:=by
   have h1:more (w.alloc zObj) (m0++(l1++l2)) q2=more (more (w.alloc zObj) (m0++l1) q1) l2 q2:=by rw[zAQ,List.append_assoc]
   rw[hq,h1];exact zBb (zAf (Nat.le_refl _)) _ (by simp only[zBo];exact Nat.le_add_right _ _)
  have Hj:=zh (show Reads WX WX.heap.size 5 Ai us.length (flat us) from ((Reads.zAC HO.out).below hF).lift hF.size);clear hF;clear HO hq hU
  go_loopw [41,10,11] (fun t v m wr=>∃ j:Nat,∃ k:Int,∃ ss:List ByteArray,j<=us.length/\t=.int .i64 j/\m=.int .i64 k/\zAA WX wr 9 1 v ss.length (ss.map Value.string)/\ss.length<=j/\(-1048576<=k/\k<=1048576)/\(∀ x∈ss,x.size<=1048576)/\joinGo tx sp k (us.drop j) ss=R) (fun t _ _ _=>us.length-(intOf t).toNat)
  case atStart=>exact⟨0,_,[],Nat.zero_le _,rfl,rfl,⟨by rw[Hl.out];exact Below.refl _ _,World.ownsRow_nil _ _ _ _⟩,Nat.le_refl _,⟨by omega,by omega⟩,(fun x hx=>by simp at hx),Hk.out⟩
  case round =>
   obtain⟨j,k,ss,hj,rfl,rfl,hG,hsl,⟨Hp,Hq⟩,Hd,ha⟩:=hrel;have hi:=hS.out.trans (hG.1.mono hS.out.size);have hC:Below w.heap.size w wr:=(show Below w.heap.size w (w.alloc zObj) from bel).trans (hi.mono (by simp));have HG:=zh hG;have hO:=zh hi;have hQ:=zh hC;have hw:=zh Hd;have hD:=hC.size;clear hG hi hC Hd;by_cases hlt:j<us.length
   ·obtain⟨x,hx⟩:∃ x,us[j]? =some x:=⟨_,List.getElem?_eq_getElem hlt⟩
    obtain⟨bk,ofx,rfl,_,hc⟩:=Hj.out.2 (by omega);have he:∀ i u,x.cells[i]? =some u->wr.cell? ⟨bk,ofx+(j*5+i),none⟩=some u:=fun i u hu=>cell_below (hc _ u (flat_at us j x hx i u hu)) HG.out.1;obtain⟨e0,e1,e2,e3,e4⟩:=tk5 he;simp only[<- Nat.add_assoc,Nat.add_zero] at e0 e1 e2 e3 e4;have Hn:=cltK e0;obtain⟨Hs,hl⟩:=HM.out x (List.mem_of_getElem? hx);have Hf:=hX.out x (List.mem_of_getElem? hx);rw[drop_at hx] at ha;unfold joinGo at ha;have hB:=zh (fun W (h:Pow10 W)=>value_AsText x hl W h);have hsz:=asTxt_size x hl Hf;obtain⟨tt,He⟩:=lt_ ((zAZ x).1);rw[He] at hB hsz ha;clear he hx Hs hl Hf He;by_cases ht0:x.tag=0
    ·have hH:(x.tag==0)=true:=by simp[ht0]
     rw[if_pos ht0] at ha;have ht:=zh ha;clear ht0 ha hc;go_wp2;go_roundw;case rel=>exact⟨j+1,_,_,by omega,by go_num,rfl,⟨HG.out.1.trans ((show Below wr.heap.size wr _ from bel).mono HG.out.1.size),own_below HG.out.2 bel⟩,by omega,⟨Hp,Hq⟩,hw.out,ht.out⟩
     case measure=>simp[intOf];omega
    ·have hH:(x.tag==0)=false:=by simp[ht0]
     rw[if_neg ht0] at ha;obtain⟨k',hs⟩:=lt_ (k+((sp.size:Int)+(tt.size:Int)));rw[hs] at ha;obtain⟨z1,hK⟩:=lt_ ((sp.size:Int)+(tt.size:Int));have Hg:0<=z1/\z1<=2097152:=by omega
     have hk:k'=k+z1:=by rw[<- hK];exact hs.symm
     have hV:=zh (show wrap64 ((sp.size:Int)+(tt.size:Int))=z1 by rw[hK];exact wr64 (by omega) (by omega));have hW:=zh (show wrap64 (k+z1)=k' by rw[hk];exact wr64 (by omega) (by omega));have Hi:=zh hs;clear hs hK;by_cases hg:tx<k'
     ·have Ho:(decide (tx<k'))=true:=decide_eq_true hg;rw[if_pos hg] at ha;have hn:=zh ha.symm;have hg2:(decide (tx<k+((sp.size:Int)+(tt.size:Int))))=true:=decide_eq_true (by rw[Hi.out];exact hg);obtain⟨l0,q0,hI⟩:=zA0 hO.out;subst hI;clear ht0 hg ha hc hk Hg;have s1:=hV.out;have s2:=hW.out;simp only[zBo,World.size_alloc] at Hn hD;go_wp2_with(first|(go_at_call 151;refine mB (hB.out _ (HP.out.below bel (Nat.le_refl _))) ?_;intro m4 r4)|(go_at_call 13;refine mB (zA3 _ _) ?_;intro l3 q3))
      all_goals(go_returns;exact⟨by rw[hn.out],bel⟩)
     ·have Ho:(decide (tx<k'))=false:=decide_eq_false hg;rw[if_neg hg] at ha;have ht:=zh ha;have Hr: -1048576<=k'/\k'<=1048576:=by omega
      have hz:=zh hsz;clear ht0 hg ha hc hsz hk Hg;have s1:=hV.out;have s2:=hW.out;go_wp2_with(first|(go_at_call 151;refine mB (hB.out _ (HP.out.below (hQ.out.trans ((show Below wr.heap.size wr _ from bel).mono hQ.out.size)) (Nat.le_refl _))) ?_;intro m4 r4)|(at_builtin;refine wpList_append_own _ rfl _ _ 93 rfl WX.heap.size 9 iS _ 1 16 underlying93 hiS hJ hM hN rfl (by decide) _ _ _ rfl (own_below HG.out.2 bel) _ 1 1 [.string tt] rfl rfl ?_ ?_ ?_ ?_ ?_ ?_))
      ·first|exact fun i u hu=>zAO (by simp) i u hu|exact fun i u hu=>hu
      ·intro u hu;simp only[List.mem_cons,List.not_mem_nil,or_false] at hu;subst hu;rfl
      ·clear s1 s2;simp only[maxLen];omega
      ·clear s1 s2;omega
      ·clear s1 s2;have h1:=HG.out.1.size;simp at h1 ⊢;omega
      ·intro v' w3 hh hf _;have R:=zAA.step HG.out bel (show w3.ownsRow WX.heap.size 9 1 v' (ss.length+1) (ss.map Value.string++[.string tt]) from by simpa using hh) hf;rw[show ss.map Value.string++[.string tt]=(ss++[tt]).map Value.string by simp,show ss.length+1=(ss++[tt]).length by simp] at R;have Hh:=zh R;clear s1 s2 hh hf R HG e0 e1 e2 e3 e4;go_wp2;go_roundw;case rel=>exact⟨j+1,_,_,by omega,by go_num,rfl,Hh.out,by simp;omega,Hr,fun y hy=>by (rcases List.mem_append.1 hy with hy|hy;(exact hw.out y hy);(simp only[List.mem_cons,List.not_mem_nil,or_false] at hy;subst hy;exact hz.out)),ht.out⟩
       case measure=>simp[intOf];omega
   ·obtain rfl:j=us.length:=by omega
    rw[List.drop_of_length_le (Nat.le_refl _)] at ha;have hn:=zh (show R=txtG (joinS sp ss) from ha.symm);have HJ:=zh (fun W (hb:Below wr.heap.size wr W) v (ho:wr.ownsRow WX.heap.size 9 1 v ss.length (ss.map Value.string))=>join_any ss sp v _ W (own_below ho hb) (by omega) hw.out hY);obtain⟨Aj2,cj2,e3⟩:=zAB HG.out.2;subst e3;have hv:=zh (fun W (hb:Below wr.heap.size wr W)=>HJ.out W hb _ HG.out.2);obtain⟨l0,q0,hI⟩:=zA0 hO.out;subst hI;obtain⟨js,Ha⟩:=lt_ (joinS sp ss);rw[Ha] at hn hv;obtain⟨nn,hnn⟩:=lt_ ss.length;rw[hnn] at hv ⊢;clear ha Ha hnn HJ;go_wp2_with(first|(go_at_call 284;refine mB (hv.out _ bel) ?_;intro m4 r4)|(go_at_call 312;refine mB (value_Txt _ _) ?_;intro m5 r5))
    all_goals(go_returns;exact⟨by rw[hn.out],bel⟩)
def p0A:Arg×List En:=(⟨false,⟨0,0,⟨#[]⟩,false,0⟩,0,0,0,0,none,0,0⟩,[])
def aggDo (s:ByteArray) (tx:Int) (pl:List (Arg×List En)):V :=
 if (⟨#[67,79,76,83]⟩:ByteArray)=s then numG (colsG (pl.getD 0 p0A).1*10000) else
 if (⟨#[82,79,87,83]⟩:ByteArray)=s then numG (rowsG (pl.getD 0 p0A).1*10000) else
 if (⟨#[74,79,73,78]⟩:ByteArray)=s then joinG tx (pl.getD 0 p0A) (pl.drop 1) else
 if (⟨#[76,65,82,71,69]⟩:ByteArray)=s then largeG (pl.getD 0 p0A) (pl.getD 1 p0A).1.val else
 if (⟨#[73,78,68,69,88]⟩:ByteArray)=s then indexG (pl.getD 0 p0A).1 (pl.getD 0 p0A).2 (pl.getD 1 p0A).1.val (pl.getD 2 p0A).1.val else
 if (⟨#[76,79,79,75,85,80]⟩:ByteArray)=s then lookupG (pl.getD 1 p0A).1 (pl.getD 1 p0A).2 (pl.getD 2 p0A).1 (pl.getD 2 p0A).2 (pl.getD 0 p0A).1.val else
 if (⟨#[77,65,84,67,72]⟩:ByteArray)=s then matchG (pl.getD 1 p0A).1 (pl.getD 1 p0A).2 (pl.getD 0 p0A).1.val else
 if (⟨#[83,85,77,73,70]⟩:ByteArray)=s then sumifG (pl.getD 0 p0A).1 (pl.getD 0 p0A).2 (pl.getD 1 p0A).1.val (pl.getD 2 p0A).1 (pl.getD 2 p0A).2 else
 if (⟨#[67,79,85,78,84,73,70]⟩:ByteArray)=s then countifG (pl.getD 0 p0A).1 (pl.getD 0 p0A).2 (pl.getD 1 p0A).1.val else
 if (⟨#[66,76,65,78,75,83]⟩:ByteArray)=s then countifG (pl.getD 0 p0A).1 (pl.getD 0 p0A).2 zeroG else
 if (⟨#[67,79,85,78,84,65]⟩:ByteArray)=s then numG (((zA2 pl).countP fun v=>v.tag != 0:Nat)*10000) else
 if (⟨#[67,79,85,78,84]⟩:ByteArray)=s then numG (((zA2 pl).countP fun v=>v.tag==1:Nat)*10000) else
 if (⟨#[77,69,68,73,65,78]⟩:ByteArray)=s then if (zA9 (zA2 pl)).2.tag=4 then (zA9 (zA2 pl)).2 else if (zA9 (zA2 pl)).1.length=0 then errG 6 else numG (medianG (zA9 (zA2 pl)).1) else
 if (⟨#[65,86,71]⟩:ByteArray)=s then if (zA9 (zA2 pl)).2.tag=4 then (zA9 (zA2 pl)).2 else if (zA9 (zA2 pl)).1.length=0 then errG 6 else numG (meanG (zA9 (zA2 pl)).1) else
 if (⟨#[77,65,88]⟩:ByteArray)=s then if (zA9 (zA2 pl)).2.tag=4 then (zA9 (zA2 pl)).2 else if (zA9 (zA2 pl)).1.length=0 then errG 6 else numG (Lib.maxOf (zA9 (zA2 pl)).1) else
 if (⟨#[77,73,78]⟩:ByteArray)=s then if (zA9 (zA2 pl)).2.tag=4 then (zA9 (zA2 pl)).2 else if (zA9 (zA2 pl)).1.length=0 then errG 6 else numG (Lib.minOf (zA9 (zA2 pl)).1) else
 if (⟨#[80,82,79,68]⟩:ByteArray)=s then if (zA9 (zA2 pl)).2.tag=4 then (zA9 (zA2 pl)).2 else prodGo 10000 (zA9 (zA2 pl)).1 else
 if (⟨#[83,85,77]⟩:ByteArray)=s then if (zA9 (zA2 pl)).2.tag=4 then (zA9 (zA2 pl)).2 else fitG (zA9 (zA2 pl)).1.sum else
 errG 8
def DoesA (w:World) (fn:Fn) (first cap:Array Value) (A:Option Addr) (n c:Nat) (tx:Int) (r:V):Prop :=
 (∃ k,fn=.func k/\first= #[]/\cap= #[]/\(∀ (args:Array Value) (w:World),Sem.run prog (callFunc k args) w=.ok (.enter k args) w) /\
  ∀ W,Below w.heap.size w W->Calls prog k #[.slice A n c,.int .i64 tx] W fun e w'=>e=.returned (vG r)/\Below W.heap.size W w') ∨
 (∃ k p,fn=.func k/\first= #[]/\cap= #[.pointer (some ⟨p,0,none⟩)]/\(∀ (args:Array Value) (w:World),Sem.run prog (callFunc k args) w=.ok (.enter k args) w) /\
  ∀ W,Below w.heap.size w W->Calls prog k #[.slice A n c,.int .i64 tx,.pointer (some ⟨p,0,none⟩)] W fun e w'=>e=.returned (vG r)/\Below W.heap.size W w')
theorem zAj {w:World} {pl:List (Arg×List En)} {A:Option Addr} {n:Nat} (h:ArgsAt w pl A n) (hn:0<n):∃ b off,A=some ⟨b,off,none⟩/\∀ j p,pl[j]? =some p->∀ i u,p.1.cells[i]? =some u->w.cell? ⟨b,off+11*j+i,none⟩=some u:=by
 obtain⟨b,off,rfl,_,hc⟩:=h.hr.2 hn;refine⟨b,off,rfl,fun j p hj i u hu=> ?_⟩;have h1:=hc _ u (zAP (pl.map Prod.fst) j p.1 (by rw[List.getElem?_map,hj];rfl) i u hu);rw[show off+11*j+i=off+(j*11+i) by omega];exact h1
theorem args_tail {w:World} {p:Arg×List En} {pl:List (Arg×List En)} {b off n:Nat} (h:ArgsAt w (p::pl) (some ⟨b,off,none⟩) (n+1)) (hT:(zA2 pl).length<=1000000000000):ArgsAt w pl (some ⟨b,off+11,none⟩) n:=by
 obtain⟨b',off',e,hb,hc⟩:=h.hr.2 (by omega);simp only[Option.some.injEq,Addr.mk.injEq,and_true] at e;obtain⟨rfl,rfl⟩:=e;refine⟨⟨?_,fun _=>⟨b,off+11,rfl,hb,fun j u hu=> ?_⟩⟩,fun q hq=>h.hE q (List.mem_cons_of_mem _ hq),hT,by have:=h.hm;omega,fun q hq=>h.hnn q (List.mem_cons_of_mem _ hq),fun q hq=>h.h64 q (List.mem_cons_of_mem _ hq),fun q hq=>h.hok q (List.mem_cons_of_mem _ hq)⟩
 ·have h1:=h.hr.1;rw[List.map_cons,zBq,List.length_append] at h1;have:p.1.cells.length=11:=rfl;omega
 ·have h1:=hc (11+j) u (by rw[List.map_cons,zBq,List.getElem?_append_right (show p.1.cells.length<=11+j from Nat.le_add_right _ _),show 11+j-p.1.cells.length=j from Nat.add_sub_cancel_left 11 j];exact hu);rw[show off+11+j=off+(11+j) by omega];exact h1
theorem args_head {w:World} {p:Arg×List En} {pl:List (Arg×List En)} {b off n:Nat} (h:ArgsAt w (p::pl) (some ⟨b,off,none⟩) (n+1)) (hT:(zA2 [p]).length<=1000000000000):ArgsAt w [p] (some ⟨b,off,none⟩) 1:=by
 obtain⟨b',off',e,hb,hc⟩:=h.hr.2 (by omega);simp only[Option.some.injEq,Addr.mk.injEq,and_true] at e;obtain⟨rfl,rfl⟩:=e;have ha:∀ q∈[p],q∈p::pl:=fun q hq=>by simp at hq;simp[hq]
 refine⟨⟨rfl,fun _=>⟨b,off,rfl,hb,fun j u hu=> ?_⟩⟩,fun q hq=>h.hE q (ha q hq),hT,by omega,fun q hq=>h.hnn q (ha q hq),fun q hq=>h.h64 q (ha q hq),fun q hq=>h.hok q (ha q hq)⟩;have hd:p.1.cells[j]? =some u:=by simpa [zBq,zAY] using hu
 exact hc j u (by rw[List.map_cons,zBq,List.getElem?_append_left (List.getElem?_eq_some_iff.1 hd).1];exact hd)
theorem zAc {a:Arg} {es:List En} (h:argOk a es=true) (hm:a.many=true):zA4 a/\(∀ e∈es,SmallE e)/\1<=rowsG a/\1<=colsG a:=by
 unfold argOk at h;rw[if_pos hm] at h;simp only[Bool.and_eq_true] at h;obtain⟨⟨h1,_⟩,h2⟩:=h;simp only[rectB,cellB,Bool.and_eq_true,decide_eq_true_eq] at h1;refine⟨by unfold zA4;omega,fun e he=> ?_,by unfold rowsG;omega,by unfold colsG;omega⟩;have h3:=(zB7 h2 e he).2;simp only[inB,Bool.and_eq_true,decide_eq_true_eq] at h3;unfold SmallE;omega
theorem kinds_at {c:ByteArray} {xs:List Bool} {n i:Nat} (h:zAo c xs n=true) (hi:i<n):kindOk c xs i=true:=by
 unfold zAo at h;exact List.all_eq_true.1 h i (List.mem_range.2 hi)
theorem zAk {c:ByteArray} {xs:List Bool} {n i:Nat} (h:zAo c xs n=true) (hi:i<n) (hc:kindAt c i=114):xs.getD i false=true:=by
 have h1:=kinds_at h hi;unfold kindOk at h1;rw[hc] at h1
 simpa using h1
theorem items_part {p:Arg×List En} {pl:List (Arg×List En)} (h:p∈pl):(zA2 [p]).length<=(zA2 pl).length:=by
 unfold zA2;rw[List.length_flatMap,List.length_flatMap];simp only[List.map_cons,List.map_nil,List.sum_cons,List.sum_nil,Nat.add_zero];have hm:(zBC p).length∈pl.map fun q=>(zBC q).length:=List.mem_map.2 ⟨p,h,rfl⟩;generalize (pl.map fun q=>(zBC q).length)=l at hm ⊢
 induction l with
 | nil=>simp at hm
 | cons x l ih =>
   rw[List.sum_cons];rcases List.mem_cons.1 hm with e|e
   ·omega
   ·have:=ih e;omega
theorem min_call (l:List Int) (A:Option Addr) (c B:Nat) (w:World) (hr:Reads w B 1 A l.length (I l)) (hn:0<l.length) (hm:l.length<=1000000000000) :
  Rt 235 #[.slice A l.length c] w (.int .i64 (Lib.minOf l)):=by
 obtain⟨b,off,rfl,_,hc⟩:=hr.2 hn;have h:=Tryz.slices_Min_int b off l.length c l w hn (Nat.le_refl _) (by omega) (fun j hj=>hc j _ (by unfold I;rw[List.getElem?_map,List.getElem?_eq_getElem hj,List.getD_eq_getElem?_getD,List.getElem?_eq_getElem hj];rfl));rw[List.take_length] at h;refine h.mono ?_;rintro e w' ⟨rfl,rfl⟩;exact⟨rfl,Below.refl _ _⟩
theorem max_call (l:List Int) (A:Option Addr) (c B:Nat) (w:World) (hr:Reads w B 1 A l.length (I l)) (hn:0<l.length) (hm:l.length<=1000000000000) :
  Rt 236 #[.slice A l.length c] w (.int .i64 (Lib.maxOf l)):=by
 obtain⟨b,off,rfl,_,hc⟩:=hr.2 hn;have h:=Tryz.slices_Max_int b off l.length c l w hn (Nat.le_refl _) (by omega) (fun j hj=>hc j _ (by unfold I;rw[List.getElem?_map,List.getElem?_eq_getElem hj,List.getD_eq_getElem?_getD,List.getElem?_eq_getElem hj];rfl));rw[List.take_length] at h;refine h.mono ?_;rintro e w' ⟨rfl,rfl⟩;exact⟨rfl,Below.refl _ _⟩
theorem len1 {α:Type} {l:List α} (h:l.length=1):∃ a,l=[a]:=by
 match l,h with
 | [a],_=>exact⟨a,rfl⟩
theorem len2 {α:Type} {l:List α} (h:l.length=2):∃ a b,l=[a,b]:=by
 match l,h with
 | [a,b],_=>exact⟨a,b,rfl⟩
theorem len3 {α:Type} {l:List α} (h:l.length=3):∃ a b c,l=[a,b,c]:=by
 match l,h with
 | [a,b,c],_=>exact⟨a,b,c,rfl⟩
theorem lenS {α:Type} {l:List α} {m:Nat} (h:l.length=m+1):∃ a r,l=a::r:=by
 match l,h with
 | a::r,_=>exact⟨a,r,rfl⟩
theorem in64 {x:Int} (h:In63 x):Is64 x:=by unfold In63 at h;unfold Is64;omega
theorem agg_do {w:World} {s ck:ByteArray} {x y:Int} {fn:Fn} {first cap:Array Value} {p:Nat} (ht:zAV s=some (ck,x,y)) (hf:aggFn p s=some (.func fn first cap)) (hk:AggCells p w)
  (pl:List (Arg×List En)) (A:Option Addr) (n c:Nat) (tx:Int) (htx:0<=tx/\tx<=1024) (hP:ArgsAt w pl A n) (hlen:pl.length=n) (hx:x<=n) (hy:n<=y) (hcap:n<=c) (hkk:zAo ck (pl.map fun q=>q.1.many) n=true)
  (hT7:(zA2 pl).length<=20000000) (hsz:∀ q∈pl,q.1.val.str.size<=1048576/\∀ e∈q.2,e.v.str.size<=1048576) (hn9:∀ q∈pl,q.1.n<=1000000000) (hp:Pow10 w):DoesA w fn first cap A n c tx (aggDo s tx pl):=by
 obtain⟨k1,k2,k3,k4,k5,k6,k7,k8,k9,k10,k11,k12⟩:=hk;unfold zAV at ht;unfold aggFn at hf;unfold aggDo;by_cases eCOLS:(⟨#[67,79,76,83]⟩:ByteArray)=s
 ·rw[if_pos eCOLS] at ht hf ⊢;cases ht;cases hf;obtain rfl:n=1:=by omega
  obtain⟨⟨a0,es0⟩,rfl⟩:=len1 hlen;obtain⟨b,off,rfl,hc⟩:=zAj hP (by decide);have n0:=hn9 (a0,es0) (by simp);have i0:=hP.h64 (a0,es0) (by simp);have o0:=hP.hok (a0,es0) (by simp);obtain⟨s0,e0,r0,q0⟩:=zAc o0 (zAk (i:=0) hkk (by decide) (by decide +kernel));refine .inl ⟨_,rfl,rfl,rfl,fun _ _=>rfl,fun W hW=> ?_⟩;have c0:=fun i u hu=>cell_below (hc 0 (a0,es0) rfl i u hu) hW;have ha:=hP.below hW;exact aggs_COLS a0 b off c tx W c0 s0
 rw[if_neg eCOLS] at ht hf ⊢;by_cases eROWS:(⟨#[82,79,87,83]⟩:ByteArray)=s
 ·rw[if_pos eROWS] at ht hf ⊢;cases ht;cases hf;obtain rfl:n=1:=by omega
  obtain⟨⟨a0,es0⟩,rfl⟩:=len1 hlen;obtain⟨b,off,rfl,hc⟩:=zAj hP (by decide);have n0:=hn9 (a0,es0) (by simp);have i0:=hP.h64 (a0,es0) (by simp);have o0:=hP.hok (a0,es0) (by simp);obtain⟨s0,e0,r0,q0⟩:=zAc o0 (zAk (i:=0) hkk (by decide) (by decide +kernel));refine .inl ⟨_,rfl,rfl,rfl,fun _ _=>rfl,fun W hW=> ?_⟩;have c0:=fun i u hu=>cell_below (hc 0 (a0,es0) rfl i u hu) hW;have ha:=hP.below hW;exact aggs_ROWS a0 b off c tx W c0 s0
 rw[if_neg eROWS] at ht hf ⊢;by_cases eJOIN:(⟨#[74,79,73,78]⟩:ByteArray)=s
 ·rw[if_pos eJOIN] at ht hf ⊢;cases ht;cases hf;obtain⟨m,rfl⟩:∃ m,n=m+1:=⟨n-1,by omega⟩
  obtain⟨⟨a0,es0⟩,pl,rfl⟩:=lenS hlen
  ·skip
   obtain⟨b,off,rfl,hc⟩:=zAj hP (by omega);have i0:=hP.h64 (a0,es0) (by simp);have z0:=(hsz (a0,es0) (by simp)).1;have hle:(zA2 pl).length<=(zA2 ((a0,es0)::pl)).length:=by unfold zA2;rw[List.flatMap_cons,List.length_append];omega
   refine .inl ⟨_,rfl,rfl,rfl,fun _ _=>rfl,fun W hW=> ?_⟩;refine aggs_JOIN a0 es0 pl m b off c tx (by omega) W (fun i u hu=>cell_below (hc 0 (a0,es0) rfl i u hu) hW) (args_tail (hP.below hW) (by omega)) (by omega) hcap i0.1 z0 (fun v hv=> ?_) (by omega) (hp.below hW (Nat.le_refl _));obtain⟨q,hq,hv⟩:=List.mem_flatMap.1 hv;have h1:=hsz q (List.mem_cons_of_mem _ hq);unfold zBC at hv;rcases List.mem_append.1 hv with hv|hv
   ·split at hv
    ·simp at hv
    ·simp only[List.mem_cons,List.not_mem_nil,or_false] at hv;subst hv;exact h1.1
   ·obtain⟨e,he,rfl⟩:=List.mem_map.1 hv;exact h1.2 e he
 rw[if_neg eJOIN] at ht hf ⊢;by_cases eLARGE:(⟨#[76,65,82,71,69]⟩:ByteArray)=s
 ·rw[if_pos eLARGE] at ht hf ⊢;cases ht;cases hf;obtain rfl:n=2:=by omega
  obtain⟨⟨a0,es0⟩,⟨a1,es1⟩,rfl⟩:=len2 hlen;obtain⟨b,off,rfl,hc⟩:=zAj hP (by decide);have n0:=hn9 (a0,es0) (by simp);have i0:=hP.h64 (a0,es0) (by simp);have o0:=hP.hok (a0,es0) (by simp);obtain⟨s0,e0,r0,q0⟩:=zAc o0 (zAk (i:=0) hkk (by decide) (by decide +kernel));have n1:=hn9 (a1,es1) (by simp);have i1:=hP.h64 (a1,es1) (by simp);have o1:=hP.hok (a1,es1) (by simp);refine .inl ⟨_,rfl,rfl,rfl,fun _ _=>rfl,fun W hW=> ?_⟩;have c0:=fun i u hu=>cell_below (hc 0 (a0,es0) rfl i u hu) hW;have c1:=fun i u hu=>cell_below (hc 1 (a1,es1) rfl i u hu) hW;have ha:=hP.below hW;exact aggs_LARGE a0 a1 es0 b off c tx W c1 (args_head ha (by have:=items_part (p:=(a0,es0)) (pl:=[(a0,es0),(a1,es1)]) (by simp);omega)) hcap i1.1
 rw[if_neg eLARGE] at ht hf ⊢;by_cases eINDEX:(⟨#[73,78,68,69,88]⟩:ByteArray)=s
 ·rw[if_pos eINDEX] at ht hf ⊢;cases ht;cases hf;obtain rfl:n=3:=by omega
  obtain⟨⟨a0,es0⟩,⟨a1,es1⟩,⟨a2,es2⟩,rfl⟩:=len3 hlen;obtain⟨b,off,rfl,hc⟩:=zAj hP (by decide);have n0:=hn9 (a0,es0) (by simp);have i0:=hP.h64 (a0,es0) (by simp);have o0:=hP.hok (a0,es0) (by simp);obtain⟨s0,e0,r0,q0⟩:=zAc o0 (zAk (i:=0) hkk (by decide) (by decide +kernel));have n1:=hn9 (a1,es1) (by simp);have i1:=hP.h64 (a1,es1) (by simp);have o1:=hP.hok (a1,es1) (by simp);have n2:=hn9 (a2,es2) (by simp);have i2:=hP.h64 (a2,es2) (by simp);have o2:=hP.hok (a2,es2) (by simp);refine .inl ⟨_,rfl,rfl,rfl,fun _ _=>rfl,fun W hW=> ?_⟩;have c0:=fun i u hu=>cell_below (hc 0 (a0,es0) rfl i u hu) hW;have c1:=fun i u hu=>cell_below (hc 1 (a1,es1) rfl i u hu) hW;have c2:=fun i u hu=>cell_below (hc 2 (a2,es2) rfl i u hu) hW;have ha:=hP.below hW;exact aggs_INDEX a0 a1 a2 es0 b off c tx W c0 c1 c2 (ha.hE (a0,es0) (by simp)) s0 e0 n0 i1.1 i2.1
 rw[if_neg eINDEX] at ht hf ⊢;by_cases eLOOKUP:(⟨#[76,79,79,75,85,80]⟩:ByteArray)=s
 ·rw[if_pos eLOOKUP] at ht hf ⊢;cases ht;cases hf;obtain rfl:n=3:=by omega
  obtain⟨⟨a0,es0⟩,⟨a1,es1⟩,⟨a2,es2⟩,rfl⟩:=len3 hlen;obtain⟨b,off,rfl,hc⟩:=zAj hP (by decide);have n0:=hn9 (a0,es0) (by simp);have i0:=hP.h64 (a0,es0) (by simp);have o0:=hP.hok (a0,es0) (by simp);have n1:=hn9 (a1,es1) (by simp);have i1:=hP.h64 (a1,es1) (by simp);have o1:=hP.hok (a1,es1) (by simp);obtain⟨s1,e1,r1,q1⟩:=zAc o1 (zAk (i:=1) hkk (by decide) (by decide +kernel));have n2:=hn9 (a2,es2) (by simp);have i2:=hP.h64 (a2,es2) (by simp);have o2:=hP.hok (a2,es2) (by simp);obtain⟨s2,e2,r2,q2⟩:=zAc o2 (zAk (i:=2) hkk (by decide) (by decide +kernel));refine .inl ⟨_,rfl,rfl,rfl,fun _ _=>rfl,fun W hW=> ?_⟩;have c0:=fun i u hu=>cell_below (hc 0 (a0,es0) rfl i u hu) hW;have c1:=fun i u hu=>cell_below (hc 1 (a1,es1) rfl i u hu) hW;have c2:=fun i u hu=>cell_below (hc 2 (a2,es2) rfl i u hu) hW;have ha:=hP.below hW;exact aggs_LOOKUP a0 a1 a2 es1 es2 b off c tx W c0 c1 c2 (ha.hE (a1,es1) (by simp)) (ha.hE (a2,es2) (by simp)) s1 s2 e1 e2 n1 n2 r1 q1
 rw[if_neg eLOOKUP] at ht hf ⊢;by_cases eMATCH:(⟨#[77,65,84,67,72]⟩:ByteArray)=s
 ·rw[if_pos eMATCH] at ht hf ⊢;cases ht;cases hf;obtain rfl:n=2:=by omega
  obtain⟨⟨a0,es0⟩,⟨a1,es1⟩,rfl⟩:=len2 hlen;obtain⟨b,off,rfl,hc⟩:=zAj hP (by decide);have n0:=hn9 (a0,es0) (by simp);have i0:=hP.h64 (a0,es0) (by simp);have o0:=hP.hok (a0,es0) (by simp);have n1:=hn9 (a1,es1) (by simp);have i1:=hP.h64 (a1,es1) (by simp);have o1:=hP.hok (a1,es1) (by simp);obtain⟨s1,e1,r1,q1⟩:=zAc o1 (zAk (i:=1) hkk (by decide) (by decide +kernel));refine .inl ⟨_,rfl,rfl,rfl,fun _ _=>rfl,fun W hW=> ?_⟩;have c0:=fun i u hu=>cell_below (hc 0 (a0,es0) rfl i u hu) hW;have c1:=fun i u hu=>cell_below (hc 1 (a1,es1) rfl i u hu) hW;have ha:=hP.below hW;exact aggs_MATCH a0 a1 es1 b off c tx W c0 c1 (ha.hE (a1,es1) (by simp)) s1 e1 n1 r1 q1
 rw[if_neg eMATCH] at ht hf ⊢;by_cases eSUMIF:(⟨#[83,85,77,73,70]⟩:ByteArray)=s
 ·rw[if_pos eSUMIF] at ht hf ⊢;cases ht;cases hf;obtain rfl:n=3:=by omega
  obtain⟨⟨a0,es0⟩,⟨a1,es1⟩,⟨a2,es2⟩,rfl⟩:=len3 hlen;obtain⟨b,off,rfl,hc⟩:=zAj hP (by decide);have n0:=hn9 (a0,es0) (by simp);have i0:=hP.h64 (a0,es0) (by simp);have o0:=hP.hok (a0,es0) (by simp);obtain⟨s0,e0,r0,q0⟩:=zAc o0 (zAk (i:=0) hkk (by decide) (by decide +kernel));have n1:=hn9 (a1,es1) (by simp);have i1:=hP.h64 (a1,es1) (by simp);have o1:=hP.hok (a1,es1) (by simp);have n2:=hn9 (a2,es2) (by simp);have i2:=hP.h64 (a2,es2) (by simp);have o2:=hP.hok (a2,es2) (by simp);obtain⟨s2,e2,r2,q2⟩:=zAc o2 (zAk (i:=2) hkk (by decide) (by decide +kernel));refine .inl ⟨_,rfl,rfl,rfl,fun _ _=>rfl,fun W hW=> ?_⟩;have c0:=fun i u hu=>cell_below (hc 0 (a0,es0) rfl i u hu) hW;have c1:=fun i u hu=>cell_below (hc 1 (a1,es1) rfl i u hu) hW;have c2:=fun i u hu=>cell_below (hc 2 (a2,es2) rfl i u hu) hW;have ha:=hP.below hW;exact aggs_SUMIF a0 a1 a2 es0 es2 b off c tx W c0 c1 c2 (ha.hE (a0,es0) (by simp)) (ha.hE (a2,es2) (by simp)) s0 s2 e0 e2 n0 n2 i2.2
 rw[if_neg eSUMIF] at ht hf ⊢;by_cases eCOUNTIF:(⟨#[67,79,85,78,84,73,70]⟩:ByteArray)=s
 ·rw[if_pos eCOUNTIF] at ht hf ⊢;cases ht;cases hf;obtain rfl:n=2:=by omega
  obtain⟨⟨a0,es0⟩,⟨a1,es1⟩,rfl⟩:=len2 hlen;obtain⟨b,off,rfl,hc⟩:=zAj hP (by decide);have n0:=hn9 (a0,es0) (by simp);have i0:=hP.h64 (a0,es0) (by simp);have o0:=hP.hok (a0,es0) (by simp);obtain⟨s0,e0,r0,q0⟩:=zAc o0 (zAk (i:=0) hkk (by decide) (by decide +kernel));have n1:=hn9 (a1,es1) (by simp);have i1:=hP.h64 (a1,es1) (by simp);have o1:=hP.hok (a1,es1) (by simp);refine .inl ⟨_,rfl,rfl,rfl,fun _ _=>rfl,fun W hW=> ?_⟩;have c0:=fun i u hu=>cell_below (hc 0 (a0,es0) rfl i u hu) hW;have c1:=fun i u hu=>cell_below (hc 1 (a1,es1) rfl i u hu) hW;have ha:=hP.below hW;exact aggs_COUNTIF a0 a1 es0 b off c tx W c0 c1 (ha.hE (a0,es0) (by simp)) s0 n0
 rw[if_neg eCOUNTIF] at ht hf ⊢;by_cases eBLANKS:(⟨#[66,76,65,78,75,83]⟩:ByteArray)=s
 ·rw[if_pos eBLANKS] at ht hf ⊢;cases ht;cases hf;obtain rfl:n=1:=by omega
  obtain⟨⟨a0,es0⟩,rfl⟩:=len1 hlen;obtain⟨b,off,rfl,hc⟩:=zAj hP (by decide);have n0:=hn9 (a0,es0) (by simp);have i0:=hP.h64 (a0,es0) (by simp);have o0:=hP.hok (a0,es0) (by simp);obtain⟨s0,e0,r0,q0⟩:=zAc o0 (zAk (i:=0) hkk (by decide) (by decide +kernel));refine .inl ⟨_,rfl,rfl,rfl,fun _ _=>rfl,fun W hW=> ?_⟩;have c0:=fun i u hu=>cell_below (hc 0 (a0,es0) rfl i u hu) hW;have ha:=hP.below hW;exact aggs_BLANKS a0 es0 b off c tx W c0 (ha.hE (a0,es0) (by simp)) s0 n0
 rw[if_neg eBLANKS] at ht hf ⊢;by_cases eCOUNTA:(⟨#[67,79,85,78,84,65]⟩:ByteArray)=s
 ·rw[if_pos eCOUNTA] at ht hf ⊢;cases ht;cases hf;refine .inr ⟨_,_,rfl,rfl,rfl,fun _ _=>rfl,fun W hW=> ?_⟩;exact aggs_count _ _ (fun _ _=>rfl) _ (fun v W2=>aggs_isA v W2) pl A n c tx W (cell_below k12 hW) (hP.below hW)
 rw[if_neg eCOUNTA] at ht hf ⊢;by_cases eCOUNT:(⟨#[67,79,85,78,84]⟩:ByteArray)=s
 ·rw[if_pos eCOUNT] at ht hf ⊢;cases ht;cases hf;refine .inr ⟨_,_,rfl,rfl,rfl,fun _ _=>rfl,fun W hW=> ?_⟩;exact aggs_count _ _ (fun _ _=>rfl) _ (fun v W2=>aggs_isN v W2) pl A n c tx W (cell_below k11 hW) (hP.below hW)
 rw[if_neg eCOUNT] at ht hf ⊢;by_cases eMEDIAN:(⟨#[77,69,68,73,65,78]⟩:ByteArray)=s
 ·rw[if_pos eMEDIAN] at ht hf ⊢;cases ht;cases hf;refine .inr ⟨_,_,rfl,rfl,rfl,fun _ _=>rfl,fun W hW=> ?_⟩;exact aggs_numbers1 _ _ _ (fun _ _=>rfl) pl A n c tx W (cell_below k10 hW) (hP.below hW) _ (fun W2 A2 c2 hW2 hR=>aggs_some _ _ (fun _ _=>rfl) _ A2 c2 W2 (cell_below (cell_below k9 hW) hW2) hR _ (fun h0 W3 hW3 hR3=>aggs_median _ A2 c2 W3 hR3 h0 (by have:=among_le (zA2 pl);have:=hP.hT;omega) (among_63 hP)))
 rw[if_neg eMEDIAN] at ht hf ⊢;by_cases eAVG:(⟨#[65,86,71]⟩:ByteArray)=s
 ·rw[if_pos eAVG] at ht hf ⊢;cases ht;cases hf;refine .inr ⟨_,_,rfl,rfl,rfl,fun _ _=>rfl,fun W hW=> ?_⟩;exact aggs_numbers1 _ _ _ (fun _ _=>rfl) pl A n c tx W (cell_below k8 hW) (hP.below hW) _ (fun W2 A2 c2 hW2 hR=>aggs_some _ _ (fun _ _=>rfl) _ A2 c2 W2 (cell_below (cell_below k7 hW) hW2) hR _ (fun h0 W3 hW3 hR3=>aggs_mean _ A2 _ c2 _ W3 hR3 h0 (by have:=among_le (zA2 pl);have:=hP.hT;omega) (among_63 hP)))
 rw[if_neg eAVG] at ht hf ⊢;by_cases eMAX:(⟨#[77,65,88]⟩:ByteArray)=s
 ·rw[if_pos eMAX] at ht hf ⊢;cases ht;cases hf;refine .inr ⟨_,_,rfl,rfl,rfl,fun _ _=>rfl,fun W hW=> ?_⟩;exact aggs_numbers1 _ _ _ (fun _ _=>rfl) pl A n c tx W (cell_below k6 hW) (hP.below hW) _ (fun W2 A2 c2 hW2 hR=>aggs_some _ _ (fun _ _=>rfl) _ A2 c2 W2 (cell_below (cell_below k5 hW) hW2) hR _ (fun h0 W3 hW3 hR3=>max_call _ A2 c2 _ W3 hR3 h0 (by have:=among_le (zA2 pl);have:=hP.hT;omega)))
 rw[if_neg eMAX] at ht hf ⊢;by_cases eMIN:(⟨#[77,73,78]⟩:ByteArray)=s
 ·rw[if_pos eMIN] at ht hf ⊢;cases ht;cases hf;refine .inr ⟨_,_,rfl,rfl,rfl,fun _ _=>rfl,fun W hW=> ?_⟩;exact aggs_numbers1 _ _ _ (fun _ _=>rfl) pl A n c tx W (cell_below k4 hW) (hP.below hW) _ (fun W2 A2 c2 hW2 hR=>aggs_some _ _ (fun _ _=>rfl) _ A2 c2 W2 (cell_below (cell_below k3 hW) hW2) hR _ (fun h0 W3 hW3 hR3=>min_call _ A2 c2 _ W3 hR3 h0 (by have:=among_le (zA2 pl);have:=hP.hT;omega)))
 rw[if_neg eMIN] at ht hf ⊢;by_cases ePROD:(⟨#[80,82,79,68]⟩:ByteArray)=s
 ·rw[if_pos ePROD] at ht hf ⊢;cases ht;cases hf;refine .inr ⟨_,_,rfl,rfl,rfl,fun _ _=>rfl,fun W hW=> ?_⟩;exact aggs_numbers0 _ _ (fun _ _=>rfl) pl A n c tx W (cell_below k2 hW) (hP.below hW) _ (fun W2 A2 c2 hW2 hR=>aggs_prod _ A2 _ c2 _ W2 hR (by have:=among_le (zA2 pl);have:=hP.hT;omega) (fun x hx=>in64 (among_63 hP x hx)))
 rw[if_neg ePROD] at ht hf ⊢;by_cases eSUM:(⟨#[83,85,77]⟩:ByteArray)=s
 ·rw[if_pos eSUM] at ht hf ⊢;cases ht;cases hf;refine .inr ⟨_,_,rfl,rfl,rfl,fun _ _=>rfl,fun W hW=> ?_⟩;exact aggs_numbers0 _ _ (fun _ _=>rfl) pl A n c tx W (cell_below k1 hW) (hP.below hW) _ (fun W2 A2 c2 hW2 hR=>aggs_sumit _ A2 c2 W2 hR (by have:=among_le (zA2 pl);have:=hP.hT;omega) (fun x hx=>in64 (among_63 hP x hx)))
 rw[if_neg eSUM] at ht hf ⊢;cases ht
theorem zBE {Q l:List Int} (h1:Q.Pairwise (· <= ·)) (h2:Q.Perm l):Q=sortG l:=by
 have hs:(sortG l).Pairwise (fun x y:Int=>(decide (x<=y))=true):=List.pairwise_mergeSort (fun a b c h1 h2=>by simp only[decide_eq_true_eq] at *;omega) (fun a b=>by simp only[Bool.or_eq_true,decide_eq_true_eq];omega) l;have hp:(sortG l).Perm l:=List.mergeSort_perm _ _;refine List.Perm.eq_of_pairwise (le:=fun x y:Int=>x<=y) (fun a b _ _ h1 h2=>by omega) h1 (hs.imp fun h=>by simpa using h) (h2.trans hp.symm)
def SrtAt (old:List Int) (x:Int) (k:Nat) (Q:List Int):Prop:=∃ A B,A++B=old/\A.length=k/\Q=A++x::B/\∀ b∈B,x<=b
theorem srt_start (old:List Int) (x:Int):SrtAt old x old.length (old++[x]):=⟨old,[],List.append_nil _,rfl,rfl,fun b hb=>by cases hb⟩
theorem SrtAt.len {old Q:List Int} {x:Int} {k:Nat} (h:SrtAt old x k Q):Q.length=old.length+1/\k<=old.length:=by
 obtain⟨A,B,rfl,rfl,rfl,_⟩:=h;simp;omega
theorem SrtAt.at0 {old Q:List Int} {x:Int} {k:Nat} (h:SrtAt old x k Q):Q[k]? =some x:=by
 obtain⟨A,B,rfl,rfl,rfl,_⟩:=h;simp
theorem SrtAt.at1 {old Q:List Int} {x:Int} {k:Nat} (h:SrtAt old x (k+1) Q):∃ y,Q[k]? =some y/\old[k]? =some y:=by
 obtain⟨A,B,rfl,hk,rfl,_⟩:=h;refine⟨A[k],?_,?_⟩
 ·rw[List.getElem?_append_left (by omega),List.getElem?_eq_getElem]
 ·rw[List.getElem?_append_left (by omega),List.getElem?_eq_getElem]
theorem SrtAt.swap {old Q:List Int} {x y:Int} {k:Nat} (h:SrtAt old x (k+1) Q) (hy:Q[k]? =some y) (hlt:x<y):SrtAt old x k ((Q.set (k+1) y).set k x):=by
 obtain⟨A,B,rfl,hk,rfl,hB⟩:=h;rw[List.getElem?_append_left (by omega)] at hy;have hA:A=A.take k++[y]:=by
  have:=zAJ hy
  rwa[List.take_of_length_le (by omega)] at this
 have hl:(A.take k).length=k:=by rw[List.length_take];omega
 refine⟨A.take k,y::B,?_,hl,?_,fun b hb=> ?_⟩
 ·conv=>rhs;rw[hA]
  simp
 ·have e1:(A++x::B).set (k+1) y=A++y::B:=by
   rw[List.set_append,if_neg (by omega),hk,Nat.sub_self]
   rfl
  rw[e1]
  conv=>lhs;rw[hA]
  rw[List.append_assoc,List.set_append,if_neg (by omega),hl,Nat.sub_self]
  rfl
 ·rcases List.mem_cons.1 hb with rfl|hb
  ·omega
  ·exact hB b hb
theorem SrtAt.done {old Q:List Int} {x:Int} {k:Nat} (h:SrtAt old x k Q) (hs:old.Pairwise (· <= ·)) (hd:k=0∨∃ y,Q[k-1]? =some y/\¬ x<y):Q.Pairwise (· <= ·)/\Q.Perm (old++[x]):=by
 obtain⟨A,B,rfl,hk,rfl,hB⟩:=h;have hc:∀ a∈A,a<=x:=by
  rcases hd with h0|⟨y,hy,hxy⟩
  ·have:A=[]:=List.eq_nil_of_length_eq_zero (by omega);subst this;intro a ha;cases ha
  ·intro a ha;rcases Nat.eq_zero_or_pos k with h0|h0
   ·have:A=[]:=List.eq_nil_of_length_eq_zero (by omega);subst this;cases ha
   rw[List.getElem?_append_left (by omega)] at hy;have hA:A=A.take (k-1)++[y]:=by
    have:=zAJ hy
    rwa[List.take_of_length_le (by omega)] at this
   rw[hA] at ha hs;rcases List.mem_append.1 ha with h1|h1
   ·rw[List.append_assoc,List.pairwise_append] at hs;have:=hs.2.2 a h1 y (by simp);omega
   ·rw[List.mem_singleton] at h1;omega
 rw[List.pairwise_append] at hs;refine⟨?_,?_⟩
 ·rw[List.pairwise_append,List.pairwise_cons];refine⟨hs.1,⟨hB,hs.2.1⟩,fun a ha b hb=> ?_⟩;rcases List.mem_cons.1 hb with rfl|hb
  ·exact hc a ha
  ·exact hs.2.2 a ha b hb
 ·rw[List.append_assoc];exact List.Perm.append_left A (List.perm_append_singleton x B).symm
theorem sum_perm {l l':List Int} (h:l.Perm l'):l.sum=l'.sum:=by
 induction h with
 | nil=>rfl
 | cons x _ ih=>rw[List.sum_cons,List.sum_cons,ih]
 | swap x y l=>simp only[List.sum_cons];omega
 | trans _ _ h1 h2=>exact h1.trans h2
theorem sortG_sum (l:List Int):(sortG l).sum=l.sum:=sum_perm (List.mergeSort_perm _ _)
theorem sortG_pw (l:List Int):(sortG l).Pairwise (· <= ·):=by
 have hs:(sortG l).Pairwise (fun x y:Int=>(decide (x<=y))=true):=List.pairwise_mergeSort (fun a b c h1 h2=>by simp only[decide_eq_true_eq] at *;omega) (fun a b=>by simp only[Bool.or_eq_true,decide_eq_true_eq];omega) l;exact hs.imp fun h=>by simpa using h
theorem foldl_min:∀ (l:List Int) (a m:Int),(m=a∨m∈l)->m<=a->(∀ x∈l,m<=x)->l.foldl min a=m
 | [],a,m,h,_,_=>by rcases h with h|h;· exact h.symm
                    ·cases h
 | x::l,a,m,h,ha,hx=>by
   have h1:=hx x List.mem_cons_self;rw[List.foldl_cons];refine foldl_min l _ m ?_ (by omega) fun y hy=>hx y (List.mem_cons_of_mem _ hy);rcases h with h|h
   ·exact .inl (by omega)
   ·rcases List.mem_cons.1 h with h|h
    ·exact .inl (by omega)
    ·exact .inr h
theorem foldl_max:∀ (l:List Int) (a m:Int),(m=a∨m∈l)->a<=m->(∀ x∈l,x<=m)->l.foldl max a=m
 | [],a,m,h,_,_=>by rcases h with h|h;· exact h.symm
                    ·cases h
 | x::l,a,m,h,ha,hx=>by
   have h1:=hx x List.mem_cons_self;rw[List.foldl_cons];refine foldl_max l _ m ?_ (by omega) fun y hy=>hx y (List.mem_cons_of_mem _ hy);rcases h with h|h
   ·exact .inl (by omega)
   ·rcases List.mem_cons.1 h with h|h
    ·exact .inl (by omega)
    ·exact .inr h
theorem sortG_min {l:List Int} (h:0<l.length):(sortG l).getD 0 0=Lib.minOf l:=by
 have hp:(sortG l).Perm l:=List.mergeSort_perm _ _;have hl:=hp.length_eq;have hs:=sortG_pw l;obtain⟨x,hx⟩:∃ x,(sortG l)[0]? =some x:=⟨_,List.getElem?_eq_getElem (by omega)⟩
 rw[List.getD,hx];show x=Lib.minOf l;have ha:∀ y∈l,x<=y:=by
  intro y hy;have:=hp.symm.subset hy;cases hL:sortG l with
  | nil=>rw[hL] at this;cases this
  | cons z r =>
    rw[hL] at this hs hx;cases hx;rw[List.pairwise_cons] at hs;rcases List.mem_cons.1 this with h|h
    ·omega
    ·exact hs.1 y h
 have hm:x∈l:=hp.subset (List.mem_of_getElem? hx);unfold Lib.minOf;cases l with
 | nil=>cases hm
 | cons a r =>
   refine(foldl_min (a::r) a x (.inr hm) (ha a List.mem_cons_self) ha).symm
theorem sortG_max {l:List Int} (h:0<l.length):(sortG l).getD (l.length-1) 0=Lib.maxOf l:=by
 have hp:(sortG l).Perm l:=List.mergeSort_perm _ _;have hl:=hp.length_eq;have hs:=sortG_pw l;obtain⟨x,hx⟩:∃ x,(sortG l)[l.length-1]? =some x:=⟨_,List.getElem?_eq_getElem (by omega)⟩
 rw[List.getD,hx];show x=Lib.maxOf l;have ha:∀ y∈l,y<=x:=by
  intro y hy;have hb:=hp.symm.subset hy;have hA:sortG l=(sortG l).take (l.length-1)++[x]:=by
   have:=zAJ hx
   rwa[List.take_of_length_le (by omega)] at this
  rw[hA] at hb hs;rw[List.pairwise_append] at hs;rcases List.mem_append.1 hb with h|h
  ·exact hs.2.2 y h x (by simp)
  ·rw[List.mem_singleton] at h;omega
 have hm:x∈l:=hp.subset (List.mem_of_getElem? hx);unfold Lib.maxOf;cases l with
 | nil=>cases hm
 | cons a r =>
   refine(foldl_max (a::r) a x (.inr hm) (ha a List.mem_cons_self) ha).symm
def hiS (l:List Int):Int:=(l.map fun x=>x / 4294967296).sum
def loS (l:List Int):Int:=(l.map fun x=>x % 4294967296).sum
theorem hilo (l:List Int):hiS l*4294967296+loS l=l.sum:=by
 induction l with
 | nil=>rfl
 | cons x l ih =>
   unfold hiS loS at *;simp only[List.map_cons,List.sum_cons];omega
theorem hi_bound {l:List Int} (h:∀ x∈l,Is64 x): -(l.length*2147483648:Int)<=hiS l/\hiS l<=l.length*2147483648:=by
 induction l with
 | nil=>exact⟨by decide,by decide⟩
 | cons x l ih =>
   have h1:=ih fun y hy=>h y (List.mem_cons_of_mem _ hy);have h2:=h x List.mem_cons_self;unfold Is64 at h2;unfold hiS at *;simp only[List.map_cons,List.sum_cons,List.length_cons];omega
theorem lo_bound (l:List Int):0<=loS l/\loS l<=l.length*4294967295:=by
 induction l with
 | nil=>exact⟨by decide,by decide⟩
 | cons x l ih =>
   unfold loS at *;simp only[List.map_cons,List.sum_cons,List.length_cons];omega
theorem snoc_sum (l:List Int) (x:Int):(l++[x]).sum=l.sum+x:=by
 induction l with
 | nil=>simp
 | cons y l ih=>rw[List.cons_append,List.sum_cons,List.sum_cons,ih];omega
theorem hi_snoc {l:List Int} {j:Nat} {x:Int} (h:l[j]? =some x):hiS (l.take (j+1))=hiS (l.take j)+x / 4294967296:=by
 unfold hiS;rw[zAJ h,List.map_append,List.map_singleton,snoc_sum]
theorem lo_snoc {l:List Int} {j:Nat} {x:Int} (h:l[j]? =some x):loS (l.take (j+1))=loS (l.take j)+x % 4294967296:=by
 unfold loS;rw[zAJ h,List.map_append,List.map_singleton,snoc_sum]
theorem exact_of (l:List Int):hiS l+loS l / 4294967296=l.sum / 4294967296/\loS l % 4294967296=l.sum % 4294967296:=by
 have:=hilo l;omega
theorem mean_two {H Q n:Nat} (hn:0<n):H / n*4294967296+(H % n*4294967296+Q) / n=(H*4294967296+Q) / n/\(H % n*4294967296+Q) % n=(H*4294967296+Q) % n:=by
 have h:=Nat.div_add_mod H n;obtain⟨q,hq⟩:=lt_ (H / n);obtain⟨r,hr⟩:=lt_ (H % n);rw[hq,hr] at h;rw[hq,hr];have e:H*4294967296+Q=n*(q*4294967296)+(r*4294967296+Q):=by
  rw[<- h,Nat.add_mul,Nat.mul_assoc];omega
 rw[e,Nat.mul_add_div hn,Nat.mul_add_mod];exact⟨rfl,rfl⟩
def firstE (a:Arg) (p:Int×Int):List En->V
 | []=>zeroG
 | e::es=>if plE a e=p then e.v else firstE a p es
theorem ents_after {t l b r:Int} :∀ {p:En} {es:List En},zAm t l b r (some p) es=true->∀ e∈es,p.row<e.row∨(p.row=e.row/\p.col<e.col)
 | _,[],_=>fun e he=>by cases he
 | p,x::es,h=>fun e he=>by
   unfold zAm at h;simp only[Bool.and_eq_true] at h;have hb:=h.1.2;have hpx:p.row<x.row∨(p.row=x.row/\p.col<x.col):=by
    unfold befB at hb;split at hb
    ·rename_i e1;exact .inr ⟨e1,of_decide_eq_true hb⟩
    ·exact .inl (of_decide_eq_true hb)
   rcases List.mem_cons.1 he with rfl|he
   ·exact hpx
   ·have:=ents_after h.2 e he;omega
theorem look_keep (a:Arg) (p:Int×Int):∀ (es:List En) (o:V),(∀ e∈es,plE a e≠p)->es.foldl (fun o e=>if plE a e=p then e.v else o) o=o
 | [],_,_=>rfl
 | e::es,o,h=>by
   rw[List.foldl_cons,if_neg (h e List.mem_cons_self)];exact look_keep a p es o fun x hx=>h x (List.mem_cons_of_mem _ hx)
theorem first_look {a:Arg} {p:Int×Int} {t l b r:Int} :∀ (o:Option En) (es:List En),zAm t l b r o es=true->firstE a p es=lookG a es p
 | _,[],_=>rfl
 | o,e::es,h=>by
   have h2:zAm t l b r (some e) es=true:=by
    unfold zAm at h;cases o<;>simp only[Bool.and_eq_true] at h<;>exact h.2
   have ih:=first_look (a:=a) (p:=p) (some e) es h2;unfold firstE lookG;rw[List.foldl_cons];by_cases hp:plE a e=p
   ·rw[if_pos hp,if_pos hp];refine(look_keep a p es e.v fun x hx e2=> ?_).symm;have:=ents_after h2 x hx;rw[<- hp] at e2;unfold plE at e2;have e3:=(Prod.mk.inj e2).1;have e4:=(Prod.mk.inj e2).2;omega
   ·rw[if_neg hp,if_neg hp];exact ih
theorem first_hit {a:Arg} {p:Int×Int} {es:List En} {i:Nat} {e:En} (h:es[i]? =some e) (hp:plE a e=p) (hno:∀ x∈es.take i,plE a x≠p):firstE a p es=e.v:=by
 induction es generalizing i with
 | nil=>cases h
 | cons x es ih =>
   unfold firstE;cases i with
   | zero =>
     cases h;rw[if_pos hp]
   | succ i =>
     rw[List.take_succ_cons] at hno;rw[if_neg (hno x List.mem_cons_self)];exact ih (by simpa using h) fun y hy=>hno y (List.mem_cons_of_mem _ hy)
theorem first_none {a:Arg} {p:Int×Int} {es:List En} (hno:∀ x∈es,plE a x≠p):firstE a p es=zeroG:=by
 induction es with
 | nil=>rfl
 | cons x es ih =>
   unfold firstE;rw[if_neg (hno x List.mem_cons_self)];exact ih fun y hy=>hno y (List.mem_cons_of_mem _ hy)
theorem blank_zero {v:V} (h:mayG v=true) (h0:v.tag=0):v=zeroG:=by
 unfold mayG at h;simp only[Bool.and_eq_true] at h;have h1:=h.1.2;unfold eqB at h1;have h2:=of_decide_eq_true h1;obtain⟨t,n,s,i,c⟩:=v;dsimp only at h0;subst h0;unfold bareG at h2;exact h2
theorem count_blank {es:List En} (h:∀ e∈es,mayG e.v=true):(es.countP fun e=>e.v.tag != 0)+(es.countP fun e=>eqB e.v zeroG)=es.length:=by
 induction es with
 | nil=>rfl
 | cons e es ih =>
   have h1:=ih fun x hx=>h x (List.mem_cons_of_mem _ hx);have h2:=h e List.mem_cons_self;rw[List.countP_cons,List.countP_cons,List.length_cons];by_cases h0:e.v.tag=0
   ·have:=blank_zero h2 h0;rw[this];have e1:((zeroG.tag != 0)=true)=False:=by simp[zeroG]
    have e2:eqB zeroG zeroG=true:=by simp[eqB]
    simp only[e1,e2,if_true,if_false];omega
   ·have e1:(e.v.tag != 0)=true:=by simpa using h0
    have e2: ¬ eqB e.v zeroG=true:=fun e=>by
     unfold eqB at e;exact h0 (by rw[of_decide_eq_true e];rfl)
    rw[if_pos e1,if_neg e2];omega
def joinD (sep:List UInt8):Bool->List V->List UInt8
 | _,[]=>[]
 | first,v::r=>if v.tag=0 then joinD sep first r else (if first then [] else sep)++(zAZ v).1.data.toList++joinD sep false r
theorem join_told (tx:Nat) (sep:ByteArray):∀ (vs:List V) (l:List ByteArray) (n:Int),n=((joinS sep l).size:Int)-(if l=[] then (sep.size:Int) else 0)->(l=[]∨(joinS sep l).size<=tx) ->
  joinGo tx sep n vs l=if tx<(joinS sep l).size+(joinD sep.data.toList l.isEmpty vs).length then errG 7 else txtG ⟨((joinS sep l).data.toList++joinD sep.data.toList l.isEmpty vs).toArray⟩
 | [],l,n,hn,ht=>by
   rw[joinGo];have h0:joinD sep.data.toList l.isEmpty []=[]:=by cases l<;>rfl
   have hz:(joinS sep ([]:List ByteArray)).size=0:=rfl;rw[h0,List.append_nil,List.length_nil,Nat.add_zero,if_neg];rcases ht with rfl|ht
   ·omega
   ·omega
 | v::r,l,n,hn,ht=>by
   rw[joinGo,joinD];by_cases h0:v.tag=0
   ·rw[if_pos h0,if_pos h0];exact join_told tx sep r l n hn ht
   ·rw[if_neg h0,if_neg h0];obtain⟨s,hs⟩:=lt_ ((zAZ v).1);rw[hs];have e:(joinS sep (l++[s])).data.toList=(joinS sep l).data.toList++((if l.isEmpty then [] else sep.data.toList)++s.data.toList):=by
     show Lib.join ((l++[s]).map fun x=>x.data.toList) sep.data.toList=Lib.join (l.map fun x=>x.data.toList) sep.data.toList++_;rw[List.map_append,List.map_singleton];cases l with
     | nil=>simp[Lib.join_one,Lib.join_nil]
     | cons y l =>
       rw[List.map_cons,List.cons_append,Lib.join_cons,Lib.join_cons];have:Lib.joinTail sep.data.toList (List.map (fun x:ByteArray=>x.data.toList) l++[s.data.toList])=Lib.joinTail sep.data.toList (List.map (fun x:ByteArray=>x.data.toList) l)++sep.data.toList++s.data.toList:=by
        generalize List.map (fun x:ByteArray=>x.data.toList) l=m;have h:=Lib.joinTail_take_succ sep.data.toList (m++[s.data.toList]) m.length s.data.toList (by simp)
        rwa[List.take_of_length_le (by simp),List.take_left] at h
       rw[this];simp
    have eL:=congrArg List.length e;rw[zAe,List.length_append,List.length_append,zAe,zAe] at eL;have hse:sep.data.toList.length=sep.size:=zAe sep;have ha:n+((sep.size:Int)+(s.size:Int))=((joinS sep (l++[s])).size:Int):=by
     rw[hn,eL];cases l<;>simp<;>omega
    have hz:l.isEmpty=decide (l=[]):=by cases l<;>simp
    by_cases hc:(tx:Int)<n+((sep.size:Int)+(s.size:Int))
    ·rw[if_pos hc,if_pos];rw[List.length_append,List.length_append,zAe];omega
    ·rw[if_neg hc];have ih:=join_told tx sep r (l++[s]) (n+((sep.size:Int)+(s.size:Int))) (by rw[ha,if_neg (by simp)];omega) (.inr (by omega));rw[ih];have e3:(l++[s]).isEmpty=false:=by simp
     rw[e3,e];simp only[List.append_assoc,List.length_append];rw[eL,zAe];simp only[Nat.add_assoc]
theorem r10_rows (a:Arg) (w:World) (h1:IntKind.i64.wrap (a.bottom-a.top)=a.bottom-a.top) (h2:IntKind.i64.wrap (a.bottom-a.top+1)=a.bottom-a.top+1):Rt 62 #[a.agg] w (.int .i64 (rowsG a)):=by
 obtain⟨many,val,top,left,bottom,right,ents,m,cc⟩:=a;unfold rowsG;simp only at h1 h2;unfold Arg.agg;go_enter func62,ntmps62;go_wp2;all_goals go_ret;all_goals exact rb_
theorem r10_cols (a:Arg) (w:World) (h1:IntKind.i64.wrap (a.right-a.left)=a.right-a.left) (h2:IntKind.i64.wrap (a.right-a.left+1)=a.right-a.left+1):Rt 63 #[a.agg] w (.int .i64 (colsG a)):=by
 obtain⟨many,val,top,left,bottom,right,ents,m,cc⟩:=a;unfold colsG;simp only at h1 h2;unfold Arg.agg;go_enter func63,ntmps63;go_wp2;all_goals go_ret;all_goals exact rb_
theorem r10_has (a:Arg) (es:List En) (x y:Int) (w:World) (hE:zAW w a es) (hm:a.n<=1000000000000) (h1:IntKind.i64.wrap (a.top+x)=a.top+x) (h2:IntKind.i64.wrap (a.left+y)=a.left+y):Rt 115 #[a.agg,.int .i64 x,.int .i64 y] w (vG (firstE a (x,y) es)):=by
 have HE:=zh hE;have hc:=hE.1;obtain⟨R,hR⟩:=lt_ (firstE a (x,y) es);rw[hR];have HR:=zh hR;have hi:=zh (fun i e (h:es[i]? =some e) (hp:plE a e=(x,y)) (hd:∀ u∈es.take i,plE a u≠(x,y))=>(hR.symm.trans (first_hit h hp hd)));have hk:=zh (fun (hd:∀ u∈es,plE a u≠(x,y))=>hR.symm.trans (first_none hd));have hl:=zh (fun e=>show plE a e=(e.row-a.top,e.col-a.left) from rfl);clear hE hR;obtain⟨⟨many,val,top,left,bottom,right,ents,m,cc⟩,ha⟩:∃ z,z=a:=⟨_,rfl⟩
 have HAA:=zh ha;have hw:a.top=top:=by rw[<- ha]
 have hv:a.left=left:=by rw[<- ha]
 have ho:a.n=m:=by rw[<- ha]
 have ht:a.ents=ents:=by rw[<- ha]
 have hh:a.agg=(⟨many,val,top,left,bottom,right,ents,m,cc⟩:Arg).agg:=by rw[ha]
 rw[hh];unfold Arg.agg;rw[hw] at h1 hl;rw[hv] at h2 hl;rw[ho] at hm hc;have hg:=zh (fun (W:World) (hb:Below w.heap.size w W) (j:Nat) (e:En) (he:es[j]? =some e)=>ent_at (HE.out.below hb) he);rw[ht,ho] at hg;have hq:=zh hc;clear hw hv ho ht hh ha hc;go_enter func115,ntmps115;go_wp2
 go_loopw [7] (fun t wr=>∃ j:Nat,j<=m/\t=.int .i64 (j:Int)/\RowKit.Hid (∀ u∈es.take j,plE a u≠(x,y))/\∃ l q,wr=more ((w.alloc (.cells #[.bool many,.int .i64 val.tag,.int .i64 val.num,.string val.str,.bool val.is,.int .i64 val.code,.int .i64 top,.int .i64 left,.int .i64 bottom,.int .i64 right,.slice ents m cc] 51)).alloc zObj) l q) (fun t _=>m-(intOf t).toNat)
 case atStart=>exact⟨0,Nat.zero_le _,rfl,zh (fun u hu=>by simp at hu),zA0 (Below.refl _ _)⟩
 case round =>
  obtain⟨j,hj,rfl,hd,l0,q0,rfl⟩:=hrel;have hx:=zh (show Below w.heap.size w (more ((w.alloc (.cells #[.bool many,.int .i64 val.tag,.int .i64 val.num,.string val.str,.bool val.is,.int .i64 val.code,.int .i64 top,.int .i64 left,.int .i64 bottom,.int .i64 right,.slice ents m cc] 51)).alloc zObj) l0 q0) from bel);by_cases hlt:j<m
  obtain⟨e,he⟩:∃ e,es[j]? =some e:=⟨_,List.getElem?_eq_getElem (show j<es.length by rw[hq.out];exact hlt)⟩
  obtain⟨b,o,e5,hb,hjn,c0,c1,c2,c3,c4,c5,c6⟩:=hg.out _ hx.out j e he;subst e5;have hbn:b<w.heap.size+1+1+l0.length:=by have h:=hb;simp at h;omega
  have hbm:b<w.heap.size+1+1+l0.length+1:=by omega
  have hA:(j:Int)<(m:Int):=by omega
  have wj:IntKind.i64.wrap ((j:Int)+1)=((j+1:Nat):Int):=by rw[IntKind.wrap_i64];omega
  have hr:=zh (fun hp:plE a e≠(x,y)=>show ∀ u∈es.take (j+1),plE a u≠(x,y) from fun u hu=>by
   rw[zAJ he] at hu;rcases List.mem_append.1 hu with h|h
   ·exact hd.out u h
   ·rw[List.mem_singleton.1 h];exact hp)
  have HP:=zh (hl.out e);have hy:=zh (hi.out j e he);obtain⟨⟨row,col,v⟩,hz⟩:∃ z,z=e:=⟨_,rfl⟩
  subst hz;simp only at c0 c1 c2 c3 c4 c5 c6;clear he;by_cases hrow:row=top+x
  by_cases hcol:col=left+y
  ·have hn:=zh (hy.out (by rw[HP.out];simp only;rw[hrow,hcol];congr 1<;>omega) hd.out);subst hrow;subst hcol;go_wp2_with fail;all_goals(go_returns;exact⟨by rw[hn.out],bel⟩)
  have hr2:decide (col=left+y)=false:=decide_eq_false hcol;have hs:=zh (hr.out (by rw[HP.out];intro e2;have:=(Prod.mk.inj e2).2;simp only at this;omega));subst hrow
  rotate_left
  have hr1:decide (row=top+x)=false:=decide_eq_false hrow;have hs:=zh (hr.out (by rw[HP.out];intro e2;have:=(Prod.mk.inj e2).1;simp only at this;omega))
  rotate_left
  ·obtain rfl:j=m:=by omega
   have hA: ¬ (j:Int)<(j:Int):=by omega
   have hf:=hd.out;rw[List.take_of_length_le (Nat.le_of_eq hq.out)] at hf;have hn:=zh (hk.out hf);clear hf;go_wp2;all_goals(go_returns;exact⟨by rw[hn.out];rfl,bel⟩)
  all_goals
   go_wp2_with fail;go_roundw;case rel=>exact⟨j+1,by omega,by go_num,hs,zA0 bel⟩
   case measure=>simp[intOf];omega
theorem r10_exact (l:List Int) (A:Option Addr) (n c:Nat) (w:World) (hr:Reads w w.heap.size 1 A n (I l)) (hm:n<=20000000) (h64:∀ x∈l,Is64 x):Calls prog 167 #[.slice A n c] w fun e w'=>e=.returned (.tuple #[.int .i64 (l.sum / 4294967296),.int .i64 (l.sum % 4294967296)])/\w'=w:=by
 have hd:l.length=n:=by have:=hr.1;simpa [I] using this
 have HR:=zh hr;have hc:=zh hd;have hi:=zh h64;clear hr hd h64;have he:=exact_of l;obtain⟨S,hS⟩:=lt_ (l.sum / 4294967296);obtain⟨T,hT⟩:=lt_ (l.sum % 4294967296);rw[hS,hT] at he ⊢;have hl:=zh he;clear hS hT he;go_enter func167,ntmps167;go_wp2
 go_loop [6,4,5] (fun t x y=>∃ j:Nat,j<=n/\t=.int .i64 (j:Int)/\x=.int .i64 (hiS (l.take j))/\y=.int .i64 (loS (l.take j))) (fun t _ _=>n-(intOf t).toNat)
 case atStart=>exact⟨0,Nat.zero_le _,rfl,rfl,rfl⟩
 case round =>
  obtain⟨j,hj,rfl,rfl,rfl⟩:=hrel;have hf:=hi_bound (l:=l.take j) (fun x hx=>hi.out x (List.mem_of_mem_take hx));have hg:=lo_bound (l.take j);rw[List.length_take,hc.out,Nat.min_eq_left hj] at hf hg;by_cases hlt:j<n
  ·obtain⟨x,hx⟩:∃ x,l[j]? =some x:=⟨_,List.getElem?_eq_getElem (show j<l.length by rw[hc.out];exact hlt)⟩
   obtain⟨b,o,rfl,hb,hjn,c0⟩:=int_at HR.out hx;have ho:=hi.out x (List.mem_of_getElem? hx);have hn:(j:Int)<(n:Int):=by omega
   have wj:IntKind.i64.wrap ((j:Int)+1)=((j+1:Nat):Int):=by rw[IntKind.wrap_i64];omega
   have HH:=zh (hi_snoc hx);have HL:=zh (lo_snoc hx);have ha:=i64_and32 x;obtain⟨h,hh⟩:=lt_ (hiS (l.take j));obtain⟨k,hk⟩:=lt_ (loS (l.take j));rw[hh] at hf HH ⊢;rw[hk] at hg HL ⊢;unfold Is64 at ho;have ws:IntKind.i64.wrap (x / 4294967296)=x / 4294967296:=by rw[IntKind.wrap_i64];omega
   have w1:IntKind.i64.wrap (h+x / 4294967296)=h+x / 4294967296:=by rw[IntKind.wrap_i64];omega
   have w2:IntKind.i64.wrap (k+x % 4294967296)=k+x % 4294967296:=by rw[IntKind.wrap_i64];omega
   clear hx hh hk;go_wp2;go_round;case rel=>exact⟨j+1,by omega,rfl,by rw[HH.out],by rw[HL.out]⟩
   case measure=>simp[intOf];omega
  ·obtain rfl:j=n:=by omega
   have hn: ¬ (j:Int)<(j:Int):=by omega
   rw[List.take_of_length_le (Nat.le_of_eq hc.out)] at hf hg ⊢;have he:=hl.out;have ha:=i64_and32 (loS l);obtain⟨h,hh⟩:=lt_ (hiS l);obtain⟨k,hk⟩:=lt_ (loS l);rw[hh] at hf he ⊢;rw[hk] at hg he ha ⊢;have ws:IntKind.i64.wrap (k / 4294967296)=k / 4294967296:=by rw[IntKind.wrap_i64];omega
   have w1:IntKind.i64.wrap (h+k / 4294967296)=h+k / 4294967296:=by rw[IntKind.wrap_i64];omega
   have HE:=zh he;clear hh hk he;go_wp2;all_goals(go_returns;exact⟨by first|rfl|(rw[<- HE.out.1,<-HE.out.2];rfl),rfl⟩)
theorem r10_whole (n:Int) (w:World):Rt 56 #[.int .i64 n] w (vG (numG (IntKind.i64.wrap (n*10000)))):=by
 have HN:=zh (zAw (IntKind.i64.wrap (n*10000)) (by rw[IntKind.wrap_i64];unfold Is64;omega));obtain⟨z,hz⟩:=lt_ (IntKind.i64.wrap (n*10000));rw[hz] at HN ⊢;go_enter func56,ntmps56;go_wp2_with(go_at_call 39;refine mB (HN.out _) ?_;intro l m)
 all_goals(go_returns;exact rb_)
theorem r10_sum (l:List Int) (A:Option Addr) (n c:Nat) (w:World) (hr:Reads w w.heap.size 1 A n (I l)) (hm:n<=20000000) (h64:∀ x∈l,Is64 x):Rt 116 #[.slice A n c] w (vG (fitG l.sum)):=by
 have HX:=zh (fun (W:World) (hb:Below w.heap.size w W)=>r10_exact l A n c W ((hr.below hb).lift hb.size) hm h64);have hd:l.sum=l.sum / 4294967296*4294967296+l.sum % 4294967296:=by omega
 have h0:0<=l.sum % 4294967296:=by omega
 have h1:l.sum % 4294967296<4294967296:=by omega
 obtain⟨R,hR⟩:=lt_ (fitG l.sum);rw[hR];unfold fitG at hR;obtain⟨S,hS⟩:=lt_ l.sum;rw[hS] at hd h0 h1 HX hR;obtain⟨H,hH⟩:=lt_ (S / 4294967296);obtain⟨L,hL⟩:=lt_ (S % 4294967296);rw[hH,hL] at hd HX;rw[hL] at h0 h1;clear hH hL hS hr h64;by_cases b1:H< -2147483648
 rw[if_pos (by omega)] at hR;subst hR;clear hd
 rotate_left
 have b1B:decide (H< -2147483648)=false:=decide_eq_false b1;by_cases b2:2147483648<=H
 rw[if_pos (by omega)] at hR;subst hR;clear hd
 rotate_left
 have b2B:decide (2147483648<=H)=false:=decide_eq_false b2;rw[if_neg (by omega)] at hR;have HN:=zh (zAw S (by unfold Is64;omega));rw[hR] at HN;have ho:=i64_or32 H L (by omega) (by omega) h0 h1;rw[<- hd] at ho;have w1:IntKind.i64.wrap (H*4294967296)=H*4294967296:=by rw[IntKind.wrap_i64];omega
 clear hd hR;all_goals
  go_enter func116,ntmps116;go_wp2_with(first|(go_at_call 167;refine(HX.out _ bel).mono ?_;rintro e w1 ⟨rfl,h⟩;obtain rfl:=h.symm;clear h)|(go_at_call 22;refine mB (zA6 _ _) ?_;intro l5 q5)|(go_at_call 39;refine mB (HN.out _) ?_;intro l5 q5))
  all_goals(go_returns;exact rb_)
theorem among_or (vs:List V) (f:List Int->V):(if (zA9 vs).2.tag=4 then (zA9 vs).2 else f (zA9 vs).1)=match vs.find? isF with
  | some v=>v
  | none=>f (numsOf vs):=by
 unfold zA9;cases h:vs.find? isF with
 | some v =>
   have h4:=List.find?_some h;unfold isF at h4;simp only[beq_iff_eq] at h4;exact if_pos h4
 | none=>exact if_neg (show ¬ zeroG.tag=4 by decide)
theorem countif_eq {a:Arg} {es:List En} {v:V} (hm:∀ e∈es,mayG e.v=true) (hv:mayG v=true) (hl:es.length=a.n) :
  countifG a es v=numG ((if v.tag=0 then rowsG a*colsG a-(es.countP fun e=>e.v.tag != 0:Nat) else (es.countP fun e=>eqB e.v v:Nat))*10000):=by
 unfold countifG;by_cases h0:v.tag=0
 ·have e:=blank_zero hv h0;subst e;have h1:=count_blank hm;rw[hl] at h1;rw[if_pos (show zeroG.tag=0 from rfl),if_pos (show zeroG.tag=0 from rfl)]
  congr 2
  omega
 ·rw[if_neg h0,if_neg h0,Int.zero_add]
theorem line_row {a:Arg} {i:Nat} (h:rowsG a=1) (hi:i<(rowsG a*colsG a).toNat):((i:Int) / colsG a,(i:Int) % colsG a)=(0,(i:Int)):=by
 rw[h,Int.one_mul] at hi;rw[Int.ediv_eq_zero_of_lt (by omega) (by omega),Int.emod_eq_of_lt (by omega) (by omega)]
theorem line_col {a:Arg} {i:Nat} (h:colsG a=1):((i:Int) / colsG a,(i:Int) % colsG a)=((i:Int),0):=by
 rw[h,Int.ediv_one,Int.emod_one]
theorem numsOf_drop {vs:List V} {j:Nat} {v:V} (h:vs[j]? =some v):numsOf (vs.drop j)=(if isN v then [v.num] else [])++numsOf (vs.drop (j+1)):=by
 have e:vs.drop j=v::vs.drop (j+1):=by
  obtain⟨hj,rfl⟩:=List.getElem?_eq_some_iff.1 h;exact List.drop_eq_getElem_cons hj
 rw[e];unfold numsOf;by_cases hv:isN v<;>simp[hv]
theorem r10_prod (vs:List V) (A:Option Addr) (n c B:Nat) (w:World) (hr:Reads w B 5 A n (flat vs)) (hm:n<=20000000) (h64:∀ v∈vs,Is64 v.num) :
  Rt 120 #[.slice A n c] w (vG (prodGo 10000 (numsOf vs))):=by
 have he:vs.length=n:=by
  have:=hr.1;rw[flat_length] at this;omega
 obtain⟨R,hR⟩:=lt_ (prodGo 10000 (numsOf vs));rw[hR];have HS:=zh (show prodGo 10000 (numsOf (vs.drop 0))=R from hR);have HR:=zh hr;have hd:=zh he;have hp:=zh h64;clear hr hR he h64;go_enter func120,ntmps120;go_wp2
 go_loopw [4,3] (fun t pv wr=>∃ (j:Nat) (p:Int),j<=n/\t=.int .i64 (j:Int)/\pv=.int .i64 p/\RowKit.Hid (Is64 p)/\RowKit.Hid (prodGo p (numsOf (vs.drop j))=R)/\Below (w.alloc zeroV).heap.size (w.alloc zeroV) wr) (fun t _ _=>n-(intOf t).toNat)
 case atStart=>exact⟨0,10000,Nat.zero_le _,rfl,rfl,zh (by unfold Is64;decide),HS,Below.refl _ _⟩
 case round =>
  obtain⟨j,p,hj,rfl,rfl,HP,HG,hB⟩:=hrel;obtain⟨l0,q0,rfl⟩:=zA0 hB;clear hB;unfold zeroV at *;by_cases hlt:j<n
  ·obtain⟨val,ha⟩:∃ a,vs[j]? =some a:=⟨_,List.getElem?_eq_getElem (show j<vs.length by rw[hd.out];exact hlt)⟩
   obtain⟨b,o,rfl,hb,hjn,c1,c2,c3,c4,c5⟩:=val_at HR.out ha;have ht:(j:Int)<(n:Int):=by omega
   have wj:IntKind.i64.wrap ((j:Int)+1)=((j+1:Nat):Int):=by rw[IntKind.wrap_i64];omega
   have hc:=HG.out;rw[numsOf_drop ha] at hc;have ho:=hp.out val (List.mem_of_getElem? ha);clear ha;by_cases hf:val.tag=1
   ·have hk:(val.tag==1)=true:=by simp[hf]
    have hl:isN val=true:=hk;rw[hl,if_pos rfl,List.singleton_append,prodGo] at hc;have HM:=zh (fun W=>r1_Mul p val.num HP.out ho W);have hg:=mul64 p val.num;obtain⟨q,hq⟩:=lt_ ((mulX p val.num).1);obtain⟨cc,hn⟩:=lt_ ((mulX p val.num).2);rw[hq,hn] at hc HM;rw[hq] at hg;clear hq hn ho;by_cases hc0:cc=0
    ·subst hc0;rw[if_neg (by simp)] at hc;have hh:=zh hc;have hs:=zh hg;clear hc hg hf;go_wp2_with(go_at_call 168;refine(HM.out _).mono ?_;rintro e w1 ⟨rfl,h⟩;obtain⟨l1,q1,rfl⟩:=zA0 h;clear h)
     go_roundw;case rel=>exact⟨j+1,q,by omega,by go_num,rfl,hs,hh,bel⟩
     case measure=>simp[intOf];omega
    ·rw[if_pos hc0] at hc;have hc1:(cc==0)=false:=by simp[hc0]
     have hc2:decide (cc=0)=false:=decide_eq_false hc0;have hi:=zh hc;clear hc hg hf;go_wp2_with(first|(go_at_call 168;refine(HM.out _).mono ?_;rintro e w1 ⟨rfl,h⟩;obtain⟨l1,q1,rfl⟩:=zA0 h;clear h)|(go_at_call 22;refine mB (zA6 _ _) ?_;intro l5 q5))
     all_goals(go_returns;exact⟨by rw[<- hi.out],bel⟩)
   ·have hk:(val.tag==1)=false:=by simp[hf]
    have hl:isN val=false:=hk;rw[hl,if_neg (by decide),List.nil_append] at hc;have hh:=zh hc;clear hc hf;go_wp2;go_roundw;case rel=>exact⟨j+1,p,by omega,by go_num,rfl,HP,hh,bel⟩
    case measure=>simp[intOf];omega
  ·obtain rfl:j=n:=by omega
   have ht: ¬ (j:Int)<(j:Int):=by omega
   have hc:=HG.out;rw[List.drop_of_length_le (Nat.le_of_eq hd.out)] at hc;have hi:=zh (show numG p=R from hc);have HN:=zh (zAw p HP.out);rw[hi.out] at HN;clear hc;go_wp2_with(go_at_call 39;refine mB (HN.out _) ?_;intro l5 q5)
   all_goals(go_returns;exact rb_)
theorem whole_any (n:Int) (h0: -100000000000000<=n) (h1:n<=100000000000000) (w:World):Rt 56 #[.int .i64 n] w (vG (numG (n*10000))):=by
 have h:=r10_whole n w;rw[show IntKind.i64.wrap (n*10000)=n*10000 by rw[IntKind.wrap_i64];omega] at h;exact h
theorem countV_one {p:V->Bool} {vs:List V} {j:Nat} {x:V} (h:vs[j]? =some x):(vs.take (j+1)).countP p=(vs.take j).countP p+(if p x then 1 else 0):=by
 rw[zAJ h,List.countP_append];simp[List.countP_cons]
theorem countV_le {p:V->Bool} {vs:List V} {j:Nat} :(vs.take j).countP p<=j:=Nat.le_trans List.countP_le_length (by rw[List.length_take];omega)
theorem r10_COUNT (vs:List V) (A:Option Addr) (n c B:Nat) (w:World) (hr:Reads w B 5 A n (flat vs)) (hm:n<=20000000) :
  Rt 54 #[.string ⟨#[67,79,85,78,84]⟩,.slice A n c] w (vG (numG ((vs.countP fun v=>v.tag==1:Nat)*10000))):=by
 have hd:vs.length=n:=by
  have:=hr.1;rw[flat_length] at this;omega
 have HR:=zh hr;have hc:=zh hd;clear hr hd;go_enter func54,ntmps54;go_wp2
 go_loopw [6,5] (fun t x wr=>∃ (j p:Nat),j<=n/\t=.int .i64 (j:Int)/\x=.int .i64 (p:Int)/\RowKit.Hid ((vs.take j).countP (fun v=>v.tag==1)=p)/\Below (w.alloc zeroV).heap.size (w.alloc zeroV) wr) (fun t _ _=>n-(intOf t).toNat)
 case atStart=>exact⟨0,0,Nat.zero_le _,rfl,rfl,zh rfl,Below.refl _ _⟩
 case round =>
  obtain⟨j,p,hj,rfl,rfl,HP,hB⟩:=hrel;obtain⟨l0,q0,rfl⟩:=zA0 hB;clear hB;unfold zeroV at *;have hpj:p<=j:=by rw[<- HP.out];exact countV_le
  by_cases hlt:j<n
  ·obtain⟨val,ha⟩:∃ a,vs[j]? =some a:=⟨_,List.getElem?_eq_getElem (show j<vs.length by rw[hc.out];exact hlt)⟩
   obtain⟨b,o,rfl,hb,hjn,c1,c2,c3,c4,c5⟩:=val_at HR.out ha;have hf:(j:Int)<(n:Int):=by omega
   have wj:IntKind.i64.wrap ((j:Int)+1)=((j+1:Nat):Int):=by rw[IntKind.wrap_i64];omega
   have wp:IntKind.i64.wrap ((p:Int)+1)=((p+1:Nat):Int):=by clear wj;rw[IntKind.wrap_i64];omega
   have HA:=zh ha;clear ha;by_cases hc1:val.tag=1
   ·have t1:(val.tag==1)=true:=by simp[hc1]
    have HC:=zh (show (vs.take (j+1)).countP (fun v=>v.tag==1)=p+1 by rw[countV_one HA.out,HP.out];simp[hc1]);clear hc1;go_wp2;go_roundw;case rel=>exact⟨j+1,p+1,by omega,by go_num,rfl,HC,bel⟩
    case measure=>simp[intOf];omega
   ·have t1:(val.tag==1)=false:=by simp[hc1]
    have HC:=zh (show (vs.take (j+1)).countP (fun v=>v.tag==1)=p+0 by rw[countV_one HA.out,HP.out];simp[hc1]);clear hc1;go_wp2;go_roundw;case rel=>exact⟨j+1,p+0,by omega,by go_num,rfl,HC,bel⟩
    case measure=>simp[intOf];omega
  ·obtain rfl:j=n:=by omega
   have hf: ¬ (j:Int)<(j:Int):=by omega
   have hp:=HP.out;rw[List.take_of_length_le (Nat.le_of_eq hc.out)] at hp;have HW:=zh (fun W=>whole_any (p:Int) (by omega) (by omega) W);have he:=zh hp;clear hp;go_wp2_with(go_at_call 56;refine mB (HW.out _) ?_;intro l5 q5)
   all_goals(go_returns;exact⟨by rw[he.out],bel⟩)
theorem r10_COUNTA (vs:List V) (A:Option Addr) (n c B:Nat) (w:World) (hr:Reads w B 5 A n (flat vs)) (hm:n<=20000000) :
  Rt 54 #[.string ⟨#[67,79,85,78,84,65]⟩,.slice A n c] w (vG (numG ((vs.countP fun v=>v.tag != 0:Nat)*10000))):=by
 have hd:vs.length=n:=by
  have:=hr.1;rw[flat_length] at this;omega
 have HR:=zh hr;have hc:=zh hd;clear hr hd;go_enter func54,ntmps54;go_wp2
 go_loopw [6,5] (fun t x wr=>∃ (j p:Nat),j<=n/\t=.int .i64 (j:Int)/\x=.int .i64 (p:Int)/\RowKit.Hid ((vs.take j).countP (fun v=>v.tag != 0)=p)/\Below (w.alloc zeroV).heap.size (w.alloc zeroV) wr) (fun t _ _=>n-(intOf t).toNat)
 case atStart=>exact⟨0,0,Nat.zero_le _,rfl,rfl,zh rfl,Below.refl _ _⟩
 case round =>
  obtain⟨j,p,hj,rfl,rfl,HP,hB⟩:=hrel;obtain⟨l0,q0,rfl⟩:=zA0 hB;clear hB;unfold zeroV at *;have hpj:p<=j:=by rw[<- HP.out];exact countV_le
  by_cases hlt:j<n
  obtain⟨val,ha⟩:∃ a,vs[j]? =some a:=⟨_,List.getElem?_eq_getElem (show j<vs.length by rw[hc.out];exact hlt)⟩
  obtain⟨b,o,rfl,hb,hjn,c1,c2,c3,c4,c5⟩:=val_at HR.out ha;have hf:(j:Int)<(n:Int):=by omega
  have wj:IntKind.i64.wrap ((j:Int)+1)=((j+1:Nat):Int):=by rw[IntKind.wrap_i64];omega
  have wp:IntKind.i64.wrap ((p:Int)+1)=((p+1:Nat):Int):=by clear wj;rw[IntKind.wrap_i64];omega
  have HA:=zh ha;clear ha;by_cases hc1:val.tag=1
  have t1:(val.tag==1)=true:=by simp[hc1]
  have HC:=zh (show (vs.take (j+1)).countP (fun v=>v.tag != 0)=p+1 by rw[countV_one HA.out,HP.out];simp[hc1]);clear hc1
  rotate_left
  by_cases hc0:val.tag=0
  ·have t0:(val.tag==0)=true:=by simp[hc0]
   have t1:(val.tag==1)=false:=by simp[hc0]
   have t2:(val.tag != 0)=false:=by simp[hc0]
   have HC:=zh (show (vs.take (j+1)).countP (fun v=>v.tag != 0)=p+0 by rw[countV_one HA.out,HP.out];simp[hc0]);clear hc1 hc0;go_wp2;go_roundw;case rel=>exact⟨j+1,p+0,by omega,by go_num,rfl,HC,bel⟩
   case measure=>simp[intOf];omega
  have t1:(val.tag==1)=false:=by simp[hc1]
  have t0:(val.tag==0)=false:=by simp[hc0]
  have t2:(val.tag != 0)=true:=by simp[hc0]
  have HC:=zh (show (vs.take (j+1)).countP (fun v=>v.tag != 0)=p+1 by rw[countV_one HA.out,HP.out];simp[hc1,hc0]);clear hc1 hc0
  rotate_left
  ·obtain rfl:j=n:=by omega
   have hf: ¬ (j:Int)<(j:Int):=by omega
   have hp:=HP.out;rw[List.take_of_length_le (Nat.le_of_eq hc.out)] at hp;have HW:=zh (fun W=>whole_any (p:Int) (by omega) (by omega) W);have he:=zh hp;clear hp;go_wp2_with(go_at_call 56;refine mB (HW.out _) ?_;intro l5 q5)
   all_goals(go_returns;exact⟨by rw[he.out],bel⟩)
  all_goals
   go_wp2;go_roundw;case rel=>exact⟨j+1,p+1,by omega,by go_num,rfl,HC,bel⟩
   case measure=>simp[intOf];omega
theorem own_set {w:World} {base e g c n:Nat} {xs:List Value} (h:w.ownsRow base e 1 (.slice (some ⟨g,0,none⟩) n c) n xs) (k:Nat) (u:Value):(w.setCell ⟨g,k,none⟩ u).ownsRow base e 1 (.slice (some ⟨g,0,none⟩) n c) n (xs.set k u):=by
 refine⟨by simpa using h.1,?_⟩;rcases h.2 with ⟨e1,_⟩|⟨g',cap,cur,e1,hb,hg,h1,h2,h3,h4⟩
 ·cases e1
 ·injection e1 with e1 e2 e3;simp only[Option.some.injEq,Addr.mk.injEq,and_true] at e1;subst e1;subst e3;refine .inr ⟨g,c,cur.setIfInBounds k u,rfl,hb,heap_setCell_same w g k cur e u hg,h1,h2,by simpa using h3,?_⟩;rw[Array.toList_setIfInBounds,List.take_set,h4]
theorem own_at {w:World} {base e g c n:Nat} {xs:List Value} (h:w.ownsRow base e 1 (.slice (some ⟨g,0,none⟩) n c) n xs) (hn:0<n):g<w.heap.size/\base<=g/\n<=c/\(∀ j u,xs[j]? =some u->w.cell? ⟨g,j,none⟩=some u)/\∀ j,w.frozen? ⟨g,j,none⟩=false:=by
 obtain⟨g',c',e1,h1,_,h2,h3,h4,h5⟩:=stk_form h hn;injection e1 with e1 e2 e3;simp only[Option.some.injEq,Addr.mk.injEq,and_true] at e1;subst e1;subst e3;exact⟨h3,h2,h1,h4,h5⟩
theorem zAA.grow {W wr w2:World} {e:TypeId} {size k:Nat} {v:Value} {xs:List Value} (h:zAA W wr e size v k xs) (hb:Below wr.heap.size wr w2):zAA W w2 e size v k xs:=⟨h.1.trans (hb.mono h.1.size),own_below h.2 hb⟩
theorem I_get {l:List Int} {j:Nat} {x:Int} (h:l[j]? =some x):(I l)[j]? =some (.int .i64 x):=by unfold I;rw[List.getElem?_map,h];rfl
theorem I_set (l:List Int) (j:Nat) (x:Int):(I l).set j (.int .i64 x)=I (l.set j x):=by unfold I;rw[List.map_set]
theorem zBR (vs:List V) (A:Option Addr) (n c:Nat) (w:World) (hr:Reads w w.heap.size 5 A n (flat vs)) (hm:n<=20000000) :
  Calls prog 117 #[.slice A n c] w fun e w'=>∃ v Q,e=.returned v/\w'.ownsRow w.heap.size 2 1 v Q.length (I Q)/\Q.Pairwise (· <= ·)/\Q.Perm (numsOf vs)/\Below w.heap.size w w':=by
 have he:vs.length=n:=by
  have:=hr.1;rw[flat_length] at this;omega
 have HR:=zh hr;have hd:=zh he;clear hr he;go_enter func117,ntmps117;go_wp2
 go_loopw [4,3] (fun t v wr=>∃ (j:Nat) (Q:List Int),j<=n/\t=.int .i64 (j:Int)/\RowKit.Hid (Q.Pairwise (· <= ·)/\Q.Perm (numsOf (vs.take j))/\Q.length<=j)/\zAA w wr 2 1 v Q.length (I Q)) (fun t _ _=>n-(intOf t).toNat)
 case atStart=>exact⟨0,[],Nat.zero_le _,rfl,zh ⟨List.Pairwise.nil,List.Perm.refl _,Nat.le_refl _⟩,Below.refl _ _,World.ownsRow_nil _ _ _ _⟩
 case round =>
  obtain⟨j,Q,hj,rfl,HQ,hG⟩:=hrel;have HG:=zh hG;clear hG;by_cases hlt:j<n
  ·obtain⟨val,ha⟩:∃ a,vs[j]? =some a:=⟨_,List.getElem?_eq_getElem (show j<vs.length by rw[hd.out];exact hlt)⟩
   obtain⟨b,o,rfl,hb,hjn,z1,z2,z3,z4,z5⟩:=val_at ((HR.out.below HG.out.1).lift HG.out.1.size) ha;have hF:(j:Int)<(n:Int):=by omega
   have wj:IntKind.i64.wrap ((j:Int)+1)=((j+1:Nat):Int):=by rw[IntKind.wrap_i64];omega
   have hg:=numsOf_snoc ha;by_cases ht:val.tag=1
   ·have hn:(val.tag==1)=true:=by simp[ht]
    have hD:=zh (show (Q++[val.num]).Perm (numsOf (vs.take (j+1))) from by rw[hg,show isN val=true from hn];exact HQ.out.2.1.append_right _);have hu:=zh HQ.out.1;have hz:Q.length<=1000000000000:=by have:=HQ.out.2.2;omega
    have hH:Q.length<=j:=HQ.out.2.2;clear hg ha HQ;obtain⟨q,hq⟩:=lt_ Q.length;have hh:=zh hq;rw[hq] at hz hH;have hi:=HG.out;rw[hq] at hi;have hA:=zh hi;clear hi hq HG;have wq:IntKind.i64.wrap (((q+1:Nat):Int)-1)=(q:Int):=by rw[IntKind.wrap_i64];omega
    go_wp2_with(at_builtin;refine gath_I rfl _ _ rfl val.num hh.out rfl hA.out bel rfl (by simp) rfl hz ?_;intro v3 w3 hl;obtain⟨g,c3,rfl,hnc,-,hgb,hg3,-,-⟩:=stk_form hl.2 (Nat.succ_pos q))
    have ho:=zh hl;clear hl z1 z2 z3 z4 z5 hb
    go_loopw [5] (fun t wr=>∃ (k:Nat) (P:List Int),k<=q/\t=.int .i64 (k:Int)/\RowKit.Hid (SrtAt Q val.num k P)/\RowKit.Hid (wr.ownsRow w.heap.size 2 1 (.slice (some ⟨g,0,none⟩) (q+1) c3) (q+1) (I P))/\RowKit.Hid (Below w.heap.size w wr)) (fun t _=>(intOf t).toNat)
    case atStart=>exact⟨q,Q++[val.num],Nat.le_refl _,rfl,zh (by rw[<- hh.out];exact srt_start Q val.num),zh ho.out.2,zh ho.out.1⟩
    case round =>
     obtain⟨k,P,hk,rfl,HS,HO,HB⟩:=hrel;have hx:P.length=q+1:=by rw[HS.out.len.1,hh.out]
     obtain⟨hgw,-,-,hc,hf⟩:=own_at HO.out (Nat.succ_pos q);rcases Nat.eq_zero_or_pos k with hw|hw;subst hw;have HD:=zh (HS.out.done hu.out (.inl rfl));have hp:=zh (show zAA w wr 2 1 (.slice (some ⟨g,0,none⟩) (q+1) c3) P.length (I P) from ⟨HB.out,by rw[hx];exact HO.out⟩);clear hc hf
     rotate_left
     obtain⟨i,rfl⟩:∃ i,k=i+1:=⟨k-1,by omega⟩
     obtain⟨y,hy,-⟩:=HS.out.at1;have d0:=hc (i+1) _ (I_get HS.out.at0);have d1:=hc i _ (I_get hy);have f0:=hf (i+1);have f1:=hf i;have hi0:(0:Int)<((i+1:Nat):Int):=by omega
     have wk:IntKind.i64.wrap (((i+1:Nat):Int)-1)=(i:Int):=by rw[IntKind.wrap_i64];omega
     have hi1:i+1<q+1:=by omega
     have hi2:i<q+1:=by omega
     have HY:=zh hy;clear hc hf hy;by_cases hxy:val.num<y
     ·have hE:=zh (HS.out.swap HY.out hxy);have hs:=zh (own_set (own_set HO.out (i+1) (.int .i64 y)) i (.int .i64 val.num));rw[I_set,I_set] at hs;go_wp2;go_quiet (fail);go_wp2;go_roundw;case rel=>exact⟨i,_,by omega,rfl,hE,hs,zh (by have hB:=HB.out;exact bel)⟩
      case measure=>first|(simp[intOf];done)|(simp[intOf];omega)
     have hI:decide (val.num<y)=false:=decide_eq_false hxy;have HD:=zh (HS.out.done hu.out (.inr ⟨y,HY.out,hxy⟩));have hp:=zh (show zAA w wr 2 1 (.slice (some ⟨g,0,none⟩) (q+1) c3) P.length (I P) from ⟨HB.out,by rw[hx];exact HO.out⟩);all_goals
      go_wp2;go_quiet (fail);go_wp2;go_roundw;case rel=>exact⟨j+1,P,by omega,rfl,zh ⟨HD.out.1,HD.out.2.trans hD.out,by omega⟩,hp.out.grow bel⟩
      case measure=>simp[intOf];omega
   ·have hn:(val.tag==1)=false:=by simp[ht]
    have hC:=zh (show Q.Pairwise (· <= ·)/\Q.Perm (numsOf (vs.take (j+1)))/\Q.length<=j+1 from ⟨HQ.out.1,by rw[hg,show isN val=false from hn];simpa using HQ.out.2.1,by have:=HQ.out.2.2;omega⟩);clear hg ha;go_wp2;go_roundw;case rel=>exact⟨j+1,Q,by omega,rfl,hC,HG.out⟩
    case measure=>simp[intOf];omega
  ·obtain rfl:j=n:=by omega
   have hF: ¬ (j:Int)<(j:Int):=by omega
   have hq:=HQ.out;rw[List.take_of_length_le (Nat.le_of_eq hd.out)] at hq;have hv:=zh hq;clear hq HQ;go_wp2;all_goals go_ret;all_goals exact⟨_,rfl,Q,HG.out.2,hv.out.1,hv.out.2.1,HG.out.1⟩
end Go.Proofs.YtnccknhbplaieaaGreatDoor
