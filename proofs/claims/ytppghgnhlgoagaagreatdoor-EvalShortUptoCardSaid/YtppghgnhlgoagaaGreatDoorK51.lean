/-
  Parts of a proof.
-/
import Derived.Test.YtppghgnhlgoagaaGreatDoorK50
set_option linter.all false
set_option maxRecDepth 100000
set_option maxHeartbeats 4000000
namespace Go.Proofs.YtppghgnhlgoagaaGreatDoor
open Go Go.RowKit
open Go.Lib renaming hid->zh
theorem below_pre {w:World} {l L:List Obj} {n N:Nat} (h:l <+: L):Below (more w l n).heap.size (more w l n) (more w L N):=by
 obtain⟨r,rfl⟩:=h
 refine⟨rfl,rfl,rfl,by simp,fun k hk=> ?_⟩
 simp only[zAa] at hk
 unfold more
 simp only
 by_cases h1:k<w.heap.size
 ·rw[Array.getElem?_append_left h1,Array.getElem?_append_left h1]
 ·rw[Array.getElem?_append_right (by omega),Array.getElem?_append_right (by omega)]
  simp only[List.getElem?_toArray]
  rw[List.getElem?_append_left (by omega)]
theorem evalShort_true {w:World} {xs:List Nx} {Af Ac ta:Option Addr} {nf nc:Nat} {es:List En} {told:List Td} {tx:Int} (h:LawIn12 w xs Af nf es Ac nc told ta tx) (cf cc tc:Nat) :
  Calls Tryz.prog 4 #[.agg #[.slice Af nf cf],.agg #[.slice Ac nc cc,.int .i64 tx,.bool true,.slice ta told.length tc]] w fun e w'=>e=.returned (.bool true)/\Below w.heap.size w w':=by
 have HL:=zh h
 have hpk:=pick_bd tx 1024 (by omega)
 obtain⟨P,hP⟩:∃ P,pickG tx 1024=P:=⟨_,rfl⟩
 rw[hP] at hpk
 have hwp:IntKind.i64.wrap (1+P)=1+P:=by rw[IntKind.wrap_i64];omega
 clear h
 go_enter Tryz.func4,Tryz.ntmps4
 go_wp2_with(first
  | (go_at_call 6;refine(law_table es told Ac ta nc cc tc (.int .i64 tx) true _ ((HL.out.he.below bel).lift (by go_size)) HL.out.nc HL.out.e64 ((HL.out.ht.below bel).lift (by go_size))).mono ?_;rintro e w1 ⟨A',c',rfl,hb,hS⟩;have HS1:=zh hS;obtain⟨l1,m1,rfl⟩:=zA0 hb;clear hb hS)
  | (go_at_call 9;refine(law_pick tx 1024 HL.out.tx (by omega) _).mono ?_;rintro e w1 ⟨rfl,rfl⟩))
 go_region_law (first
  | (go_simp;go_at_call 8;refine(table_New _).mono ?_;rintro e w1 ⟨rfl,hF,hb⟩;have HF:=zh hF;obtain⟨l2,m2,rfl⟩:=zA0 hb;clear hb hF)
  | (go_simp;go_at_call 10;refine mB (law_host _ _ _ _ true _) ?_;intro l3 m3)
  | (go_simp;go_at_call 7;refine(eval_New _ _ (by omega) (by omega) _).mono ?_;rintro e w1 ⟨rfl,hE,hb⟩;have HE:=zh hE;obtain⟨l4,m4,rfl⟩:=zA0 hb;clear hb hE))
 all_goals
  go_wp2_with fail
  obtain⟨tN,htN⟩:∃ tN:Nat,1+P=(tN:Int):=⟨(1+P).toNat,by omega⟩
  have hS1:=HS1.out (w.heap.size+1+1+l1.length)
  have hF1:=HF.out
  have hE1:=HE.out
  simp only[zAa,alz,List.length_append,zAR] at hS1 hF1 hE1
  obtain⟨tb,htb⟩:∃ tb:Tb,tb=⟨w.heap.size+1+1+1,A',c',tabE es,true,ta,tc,told,w.heap.size+1+1+l1.length,true⟩:=⟨_,rfl⟩
  rw[<- htb] at hS1
  have hpt:tb.pt=w.heap.size+1+1+1:=by rw[htb]
  have htp:tb.tp=w.heap.size+1+1+l1.length:=by rw[htb]
  have hl1:1<l1.length:=by have:=hS1.lt;rw[hpt] at this;omega
  have hl2:0<l2.length:=by have:=zA6 hF1.1;simp at this;omega
  have hl4:0<l4.length:=by have:=zA6 (hE1 0 _ rfl);simp at this;omega
  have hTG:TbG (ringG (tabE es)=false) (longG tN (tabE es)) tb:=by rw[htb];exact HL.out.tbG _ _ _ _ _ _ _ _ _
  have hKg:=long_ge (tabE es) tN
  obtain⟨K,hK⟩:∃ K,longG tN (tabE es)=K:=⟨_,rfl⟩
  have hKl:longG tN (tabE es)<=1048576:=HL.out.long (by omega)
  rw[hK] at hTG hKg hKl
  rw[<- htp] at hF1 hE1
  have hW:=fun (X:World)=>eval_WorkAll xs Af nf cf w.heap.size (w.heap.size+1+1+(l1.length+(l2.length+l3.length))) (1+P) .nilIface (ringG (tabE es)=false) K X (w.heap.size+1+1+l1.length) tb
  rw[hpt] at hW
  refine(hW _ (HL.out.hf.below bel) HL.out.nf (fun x hx=>by have:=HL.out.nm x hx;omega) HL.out.x64 (hE1.below (below_pre ⟨[],by simp⟩)) (.inl ⟨by rw[htb],rfl⟩) (hS1.below (below_pre ⟨l2++(l3++l4),by simp⟩)) hTG hKl (by omega) (by rw[htb];exact HL.out.nt) ?_ (TabOK.below (.inr hF1) (below_pre ⟨l3++l4,by simp⟩)) (by omega) (by omega) (fun h0 bn off e=> ?_) (fun w' hk=> ?_)).mono ?_
  ·refine⟨by rw[hpt,htp];omega,fun h0 b off e=> ?_,fun h0 b off e=> ?_⟩
   ·obtain⟨b',off',e',hb,-⟩:=hS1.en.2 h0
    rw[e'] at e
    cases e
    rw[htp];omega
   ·obtain⟨b',off',e',hb,-⟩:=hS1.tl.2 h0
    rw[e'] at e
    cases e
    rw[htp];omega
  ·obtain⟨b',off',e',hb,-⟩:=HL.out.hf.2 h0
   rw[e'] at e
   cases e
   omega
  ·have hb:=hk.base (B:=w.heap.size) (w:=w) bel (Nat.le_refl _) (by omega) (by omega) (fun k e=>by cases e)
   exact⟨HL.out.hp.below hb (Nat.le_refl _),HL.out.hM.below hb⟩
  ·obtain⟨v,hv⟩:∃ v,(workG tb (1+P) xs).1=v:=⟨_,rfl⟩
   rw[hv]
   rintro e w5 ⟨rfl,hp5,hG5⟩
   have hb5:=hp5.kept.base (B:=w.heap.size) (w:=w) bel (Nat.le_refl _) (by omega) (by omega) (fun k e=>by cases e)
   obtain⟨ask5,na5,hS5,-⟩:=hp5.ex
   have T0:w5.cell? ⟨w.heap.size+1+1+1,0,none⟩=some (.slice tb.A tb.ents.length tb.c):=by have h:=hS5.at0 0 _ rfl;rw[hpt] at h;exact h
   have lT:=zA6 T0
   have HS5:=zh hS5.en
   have HB5:=zh hb5
   have HG5:=zh hG5
   have hents:tb.ents=tabE es:=by rw[htb]
   obtain⟨ents,hent⟩:∃ ents,tabE es=ents:=⟨_,rfl⟩
   rw[hent] at hents hK HG5
   rw[hents] at T0 HS5
   obtain⟨TA,hTA⟩:∃ TA,tb.A=TA:=⟨_,rfl⟩
   obtain⟨TC,hTC⟩:∃ TC,tb.c=TC:=⟨_,rfl⟩
   rw[hTA,hTC] at T0
   rw[hTA] at HS5
   have hlen:ents.length<=1048576:=by have:=hTG.len;rw[hents] at this;exact this
   have HK:=zh hK
   have HKL:=zh hKl
   clear hW hS1 hF1 hE1 hTG hKg hK hKl hp5 hS5 hb5 hG5 hv HS1 HF HE hents hent hTA hTC hpt htp htb
   rw[htN]
   go_wp2
   go_loopw [9,10,11] (fun r lg i wr=>∃ j:Nat,j<=ents.length/\r=.bool (ringG (ents.take j))/\lg=.int .i64 (longG tN (ents.take j):Nat)/\i=.int .i64 j/\Below (w5.heap.size+1) (w5.alloc (.cells #[.int .i64 v.tag,.int .i64 v.num,.string v.str,.bool v.is,.int .i64 v.code] 44)) wr) (fun _ _ i _=>ents.length-(intOf i).toNat)
   case atStart=>exact⟨0,Nat.zero_le _,rfl,rfl,rfl,bel⟩
   case round =>
    obtain⟨j,hj,rfl,rfl,rfl,hB⟩:=hrel
    have hs:=hB.size
    rw[alz] at hs
    have b0:wr.cell? ⟨w5.heap.size,0,none⟩=some (.int .i64 v.tag):=cell_below (w:=w5.alloc (.cells #[.int .i64 v.tag,.int .i64 v.num,.string v.str,.bool v.is,.int .i64 v.code] 44)) ((AtB.new rfl) 0 _ rfl) (by rw[alz];exact hB)
    have b1:wr.cell? ⟨w5.heap.size,1,none⟩=some (.int .i64 v.num):=cell_below (w:=w5.alloc (.cells #[.int .i64 v.tag,.int .i64 v.num,.string v.str,.bool v.is,.int .i64 v.code] 44)) ((AtB.new rfl) 1 _ rfl) (by rw[alz];exact hB)
    have b2:wr.cell? ⟨w5.heap.size,2,none⟩=some (.string v.str):=cell_below (w:=w5.alloc (.cells #[.int .i64 v.tag,.int .i64 v.num,.string v.str,.bool v.is,.int .i64 v.code] 44)) ((AtB.new rfl) 2 _ rfl) (by rw[alz];exact hB)
    have b3:wr.cell? ⟨w5.heap.size,3,none⟩=some (.bool v.is):=cell_below (w:=w5.alloc (.cells #[.int .i64 v.tag,.int .i64 v.num,.string v.str,.bool v.is,.int .i64 v.code] 44)) ((AtB.new rfl) 3 _ rfl) (by rw[alz];exact hB)
    have b4:wr.cell? ⟨w5.heap.size,4,none⟩=some (.int .i64 v.code):=cell_below (w:=w5.alloc (.cells #[.int .i64 v.tag,.int .i64 v.num,.string v.str,.bool v.is,.int .i64 v.code] 44)) ((AtB.new rfl) 4 _ rfl) (by rw[alz];exact hB)
    have hB5:Below w5.heap.size w5 wr:=Below.trans (show Below w5.heap.size w5 (w5.alloc (.cells #[.int .i64 v.tag,.int .i64 v.num,.string v.str,.bool v.is,.int .i64 v.code] 44)) from bel) (hB.mono (Nat.le_succ _))
    have T1:wr.cell? ⟨w.heap.size+1+1+1,0,none⟩=some (.slice TA ents.length TC):=cell_below T0 hB5
    have lT1:=zA6 T1
    have lb:=zA6 b0
    have HB:=zh hB
    have HBW:=zh (HB5.out.trans (hB5.mono HB5.out.size))
    clear hB
    by_cases hlt:j<ents.length
    ·obtain⟨e,he⟩:∃ e,ents[j]? =some e:=⟨_,List.getElem?_eq_getElem hlt⟩
     obtain⟨bk,off,rfl,hbk,hbn,hc⟩:=HS5.out.2 (by omega)
     have hcell:∀ i u,e.cells[i]? =some u->wr.cell? ⟨bk,off+(j*7+i),none⟩=some u:=fun i u hu=>cell_below (hc _ u (zAC En.cells 7 En.cells_length ents j e he i u hu)) hB5
     have c4:=hcell 4 _ rfl
     have c6:=hcell 6 _ rfl
     simp only[<- Nat.add_assoc] at c4 c6
     have lc:=zA6 c4
     have HRT:=zh (ring_take ents j e he)
     have HLT:=zh (long_take tN ents j e he)
     obtain⟨rg,hrg⟩:∃ rg,ringG (ents.take j)=rg:=⟨_,rfl⟩
     obtain⟨lg,hlg⟩:∃ lg,longG tN (ents.take j)=lg:=⟨_,rfl⟩
     rw[hrg] at HRT ⊢
     rw[hlg] at HLT ⊢
     clear hcell hc he hrg hlg hB5 T0
     by_cases hgt:lg<e.v.str.size
     ·have hg1:(lg:Int)<(e.v.str.size:Int):=by omega
      cases rg
      ·go_wp2
       exact⟨⟨j+1,by omega,by rw[HRT.out];rfl,by rw[HLT.out,Nat.max_eq_right (by omega)],by go_num,HB.out.trans (Below.mono (B:=wr.heap.size) bel (by omega))⟩,by simp[intOf];omega⟩
      ·go_wp2
       exact⟨⟨j+1,by omega,by rw[HRT.out];rfl,by rw[HLT.out,Nat.max_eq_right (by omega)],by go_num,HB.out.trans (Below.mono (B:=wr.heap.size) bel (by omega))⟩,by simp[intOf];omega⟩
     ·have hg1: ¬ (lg:Int)<(e.v.str.size:Int):=by omega
      cases rg
      ·go_wp2
       exact⟨⟨j+1,by omega,by rw[HRT.out];rfl,by rw[HLT.out,Nat.max_eq_left (by omega)],by go_num,HB.out.trans (Below.mono (B:=wr.heap.size) bel (by omega))⟩,by simp[intOf];omega⟩
      ·go_wp2
       exact⟨⟨j+1,by omega,by rw[HRT.out];rfl,by rw[HLT.out,Nat.max_eq_left (by omega)],by go_num,HB.out.trans (Below.mono (B:=wr.heap.size) bel (by omega))⟩,by simp[intOf];omega⟩
    ·obtain rfl:j=ents.length:=by omega
     rw[List.take_length]
     rw[HK.out]
     have HM:=zh (fun w=>ref02_May v HG5.out.1.2.2.to64.1 w)
     rw[HG5.out.1.1] at HM
     have hsz:(v.str.size:Int)<=(K:Int):=by have:=HG5.out.2;unfold Sz at this;omega
     have HL2:=zh (fun (X:World) (hb:Below w.heap.size w X)=>lives1 X (HL.out.hp.below hb (Nat.le_refl _)) (HL.out.hM.below hb))
     have hcd:(v.code != 1 || ringG ents)=true:=by
      cases hr:ringG ents with
      | true=>simp
      | false =>
        have h1:=HG5.out.1.2.1 hr
        simp[h1]
     obtain⟨rg,hrg⟩:∃ rg,ringG ents=rg:=⟨_,rfl⟩
     rw[hrg] at hcd ⊢
     clear hrg hB5 T0
     cases hc1:(v.code != 1)<;>rw[hc1] at hcd
     all_goals
      cases rg
      all_goals first
       | (exfalso;simp at hcd;done)
       | (go_wp2_with(first
           | (go_at_call 15;refine mB (HM.out _) ?_;intro l6 m6)
           | (go_at_call 13;refine mB (HL2.out _ (HBW.out.trans (Below.mono (B:=wr.heap.size) bel (by have:=HBW.out.size;omega)))) ?_;intro l7 m7))
          go_ret
          exact⟨rfl,HBW.out.trans (Below.mono (B:=wr.heap.size) bel (by have:=HBW.out.size;omega))⟩)
theorem evalShort_false {w:World} {xs:List Nx} {Af Ac ta:Option Addr} {nf nc:Nat} {es:List En} {told:List Td} {tx:Int} (h:LawIn12 w xs Af nf es Ac nc told ta tx) (cf cc tc:Nat) :
  Calls Tryz.prog 4 #[.agg #[.slice Af nf cf],.agg #[.slice Ac nc cc,.int .i64 tx,.bool false,.slice ta told.length tc]] w fun e w'=>e=.returned (.bool true)/\Below w.heap.size w w':=by
 have HL:=zh h
 have hpk:=pick_bd tx 1024 (by omega)
 obtain⟨P,hP⟩:∃ P,pickG tx 1024=P:=⟨_,rfl⟩
 rw[hP] at hpk
 have hwp:IntKind.i64.wrap (1+P)=1+P:=by rw[IntKind.wrap_i64];omega
 clear h
 go_enter Tryz.func4,Tryz.ntmps4
 go_wp2_with(first
  | (go_at_call 6;refine(law_table es told Ac ta nc cc tc (.int .i64 tx) false _ ((HL.out.he.below bel).lift (by go_size)) HL.out.nc HL.out.e64 ((HL.out.ht.below bel).lift (by go_size))).mono ?_;rintro e w1 ⟨A',c',rfl,hb,hS⟩;have HS1:=zh hS;obtain⟨l1,m1,rfl⟩:=zA0 hb;clear hb hS)
  | (go_at_call 9;refine(law_pick tx 1024 HL.out.tx (by omega) _).mono ?_;rintro e w1 ⟨rfl,rfl⟩))
 go_region_law (first
  | (go_simp;go_at_call 8;refine(table_New _).mono ?_;rintro e w1 ⟨rfl,hF,hb⟩;have HF:=zh hF;obtain⟨l2,m2,rfl⟩:=zA0 hb;clear hb hF)
  | (go_simp;go_at_call 10;refine mB (law_host _ _ _ _ false _) ?_;intro l3 m3)
  | (go_simp;go_at_call 7;refine(eval_NewH _ _ _ _ (by omega) (by omega) _).mono ?_;rintro e w1 ⟨rfl,hE,hb⟩;have HE:=zh hE;obtain⟨l4,m4,rfl⟩:=zA0 hb;clear hb hE))
 all_goals
  go_wp2_with fail
  obtain⟨tN,htN⟩:∃ tN:Nat,1+P=(tN:Int):=⟨(1+P).toNat,by omega⟩
  have hS1:=HS1.out (w.heap.size+1+1+l1.length)
  have hF1:=HF.out
  have hE1:=HE.out
  simp only[zAa,alz,List.length_append,zAR] at hS1 hF1 hE1
  obtain⟨tb,htb⟩:∃ tb:Tb,tb=⟨w.heap.size+1+1+1,A',c',tabE es,false,ta,tc,told,w.heap.size+1+1+l1.length,false⟩:=⟨_,rfl⟩
  rw[<- htb] at hS1
  have hpt:tb.pt=w.heap.size+1+1+1:=by rw[htb]
  have htp:tb.tp=w.heap.size+1+1+l1.length:=by rw[htb]
  have hl1:1<l1.length:=by have:=hS1.lt;rw[hpt] at this;omega
  have hl2:0<l2.length:=by have:=zA6 hF1.1;simp at this;omega
  have hl4:0<l4.length:=by have:=zA6 (hE1 0 _ rfl);simp at this;omega
  have hTG:TbG (ringG (tabE es)=false) (longG tN (tabE es)) tb:=by rw[htb];exact HL.out.tbG _ _ _ _ _ _ _ _ _
  have hKg:=long_ge (tabE es) tN
  obtain⟨K,hK⟩:∃ K,longG tN (tabE es)=K:=⟨_,rfl⟩
  have hKl:longG tN (tabE es)<=1048576:=HL.out.long (by omega)
  rw[hK] at hTG hKg hKl
  rw[<- htp] at hF1 hE1
  have hW:=fun (X:World)=>eval_WorkAll xs Af nf cf w.heap.size (w.heap.size+1+1+(l1.length+(l2.length+l3.length))) (1+P) (.iface 31 (.pointer (some ⟨w.heap.size+1+1+1,0,none⟩))) (ringG (tabE es)=false) K X (w.heap.size+1+1+l1.length) tb
  rw[hpt] at hW
  refine(hW _ (HL.out.hf.below bel) HL.out.nf (fun x hx=>by have:=HL.out.nm x hx;omega) HL.out.x64 (hE1.below (below_pre ⟨[],by simp⟩)) (.inr ⟨by rw[htb],by rw[htb]⟩) (hS1.below (below_pre ⟨l2++(l3++l4),by simp⟩)) hTG hKl (by omega) (by rw[htb];exact HL.out.nt) ?_ (TabOK.below (.inr hF1) (below_pre ⟨l3++l4,by simp⟩)) (by omega) (by omega) (fun h0 bn off e=> ?_) (fun w' hk=> ?_)).mono ?_
  ·refine⟨by rw[hpt,htp];omega,fun h0 b off e=> ?_,fun h0 b off e=> ?_⟩
   ·obtain⟨b',off',e',hb,-⟩:=hS1.en.2 h0
    rw[e'] at e
    cases e
    rw[htp];omega
   ·obtain⟨b',off',e',hb,-⟩:=hS1.tl.2 h0
    rw[e'] at e
    cases e
    rw[htp];omega
  ·obtain⟨b',off',e',hb,-⟩:=HL.out.hf.2 h0
   rw[e'] at e
   cases e
   omega
  ·have hb:=hk.base (B:=w.heap.size) (w:=w) bel (Nat.le_refl _) (by omega) (by omega) (fun k e=>by cases e)
   exact⟨HL.out.hp.below hb (Nat.le_refl _),HL.out.hM.below hb⟩
  ·obtain⟨v,hv⟩:∃ v,(workG tb (1+P) xs).1=v:=⟨_,rfl⟩
   rw[hv]
   rintro e w5 ⟨rfl,hp5,hG5⟩
   have hb5:=hp5.kept.base (B:=w.heap.size) (w:=w) bel (Nat.le_refl _) (by omega) (by omega) (fun k e=>by cases e)
   obtain⟨ask5,na5,hS5,-⟩:=hp5.ex
   have T0:w5.cell? ⟨w.heap.size+1+1+1,0,none⟩=some (.slice tb.A tb.ents.length tb.c):=by have h:=hS5.at0 0 _ rfl;rw[hpt] at h;exact h
   have lT:=zA6 T0
   have HS5:=zh hS5.en
   have HB5:=zh hb5
   have HG5:=zh hG5
   have hents:tb.ents=tabE es:=by rw[htb]
   obtain⟨ents,hent⟩:∃ ents,tabE es=ents:=⟨_,rfl⟩
   rw[hent] at hents hK HG5
   rw[hents] at T0 HS5
   obtain⟨TA,hTA⟩:∃ TA,tb.A=TA:=⟨_,rfl⟩
   obtain⟨TC,hTC⟩:∃ TC,tb.c=TC:=⟨_,rfl⟩
   rw[hTA,hTC] at T0
   rw[hTA] at HS5
   have hlen:ents.length<=1048576:=by have:=hTG.len;rw[hents] at this;exact this
   have HK:=zh hK
   have HKL:=zh hKl
   clear hW hS1 hF1 hE1 hTG hKg hK hKl hp5 hS5 hb5 hG5 hv HS1 HF HE hents hent hTA hTC hpt htp htb
   rw[htN]
   go_wp2
   go_loopw [9,10,11] (fun r lg i wr=>∃ j:Nat,j<=ents.length/\r=.bool (ringG (ents.take j))/\lg=.int .i64 (longG tN (ents.take j):Nat)/\i=.int .i64 j/\Below (w5.heap.size+1) (w5.alloc (.cells #[.int .i64 v.tag,.int .i64 v.num,.string v.str,.bool v.is,.int .i64 v.code] 44)) wr) (fun _ _ i _=>ents.length-(intOf i).toNat)
   case atStart=>exact⟨0,Nat.zero_le _,rfl,rfl,rfl,bel⟩
   case round =>
    obtain⟨j,hj,rfl,rfl,rfl,hB⟩:=hrel
    have hs:=hB.size
    rw[alz] at hs
    have b0:wr.cell? ⟨w5.heap.size,0,none⟩=some (.int .i64 v.tag):=cell_below (w:=w5.alloc (.cells #[.int .i64 v.tag,.int .i64 v.num,.string v.str,.bool v.is,.int .i64 v.code] 44)) ((AtB.new rfl) 0 _ rfl) (by rw[alz];exact hB)
    have b1:wr.cell? ⟨w5.heap.size,1,none⟩=some (.int .i64 v.num):=cell_below (w:=w5.alloc (.cells #[.int .i64 v.tag,.int .i64 v.num,.string v.str,.bool v.is,.int .i64 v.code] 44)) ((AtB.new rfl) 1 _ rfl) (by rw[alz];exact hB)
    have b2:wr.cell? ⟨w5.heap.size,2,none⟩=some (.string v.str):=cell_below (w:=w5.alloc (.cells #[.int .i64 v.tag,.int .i64 v.num,.string v.str,.bool v.is,.int .i64 v.code] 44)) ((AtB.new rfl) 2 _ rfl) (by rw[alz];exact hB)
    have b3:wr.cell? ⟨w5.heap.size,3,none⟩=some (.bool v.is):=cell_below (w:=w5.alloc (.cells #[.int .i64 v.tag,.int .i64 v.num,.string v.str,.bool v.is,.int .i64 v.code] 44)) ((AtB.new rfl) 3 _ rfl) (by rw[alz];exact hB)
    have b4:wr.cell? ⟨w5.heap.size,4,none⟩=some (.int .i64 v.code):=cell_below (w:=w5.alloc (.cells #[.int .i64 v.tag,.int .i64 v.num,.string v.str,.bool v.is,.int .i64 v.code] 44)) ((AtB.new rfl) 4 _ rfl) (by rw[alz];exact hB)
    have hB5:Below w5.heap.size w5 wr:=Below.trans (show Below w5.heap.size w5 (w5.alloc (.cells #[.int .i64 v.tag,.int .i64 v.num,.string v.str,.bool v.is,.int .i64 v.code] 44)) from bel) (hB.mono (Nat.le_succ _))
    have T1:wr.cell? ⟨w.heap.size+1+1+1,0,none⟩=some (.slice TA ents.length TC):=cell_below T0 hB5
    have lT1:=zA6 T1
    have lb:=zA6 b0
    have HB:=zh hB
    have HBW:=zh (HB5.out.trans (hB5.mono HB5.out.size))
    clear hB
    by_cases hlt:j<ents.length
    ·obtain⟨e,he⟩:∃ e,ents[j]? =some e:=⟨_,List.getElem?_eq_getElem hlt⟩
     obtain⟨bk,off,rfl,hbk,hbn,hc⟩:=HS5.out.2 (by omega)
     have hcell:∀ i u,e.cells[i]? =some u->wr.cell? ⟨bk,off+(j*7+i),none⟩=some u:=fun i u hu=>cell_below (hc _ u (zAC En.cells 7 En.cells_length ents j e he i u hu)) hB5
     have c4:=hcell 4 _ rfl
     have c6:=hcell 6 _ rfl
     simp only[<- Nat.add_assoc] at c4 c6
     have lc:=zA6 c4
     have HRT:=zh (ring_take ents j e he)
     have HLT:=zh (long_take tN ents j e he)
     obtain⟨rg,hrg⟩:∃ rg,ringG (ents.take j)=rg:=⟨_,rfl⟩
     obtain⟨lg,hlg⟩:∃ lg,longG tN (ents.take j)=lg:=⟨_,rfl⟩
     rw[hrg] at HRT ⊢
     rw[hlg] at HLT ⊢
     clear hcell hc he hrg hlg hB5 T0
     by_cases hgt:lg<e.v.str.size
     ·have hg1:(lg:Int)<(e.v.str.size:Int):=by omega
      cases rg
      ·go_wp2
       exact⟨⟨j+1,by omega,by rw[HRT.out];rfl,by rw[HLT.out,Nat.max_eq_right (by omega)],by go_num,HB.out.trans (Below.mono (B:=wr.heap.size) bel (by omega))⟩,by simp[intOf];omega⟩
      ·go_wp2
       exact⟨⟨j+1,by omega,by rw[HRT.out];rfl,by rw[HLT.out,Nat.max_eq_right (by omega)],by go_num,HB.out.trans (Below.mono (B:=wr.heap.size) bel (by omega))⟩,by simp[intOf];omega⟩
     ·have hg1: ¬ (lg:Int)<(e.v.str.size:Int):=by omega
      cases rg
      ·go_wp2
       exact⟨⟨j+1,by omega,by rw[HRT.out];rfl,by rw[HLT.out,Nat.max_eq_left (by omega)],by go_num,HB.out.trans (Below.mono (B:=wr.heap.size) bel (by omega))⟩,by simp[intOf];omega⟩
      ·go_wp2
       exact⟨⟨j+1,by omega,by rw[HRT.out];rfl,by rw[HLT.out,Nat.max_eq_left (by omega)],by go_num,HB.out.trans (Below.mono (B:=wr.heap.size) bel (by omega))⟩,by simp[intOf];omega⟩
    ·obtain rfl:j=ents.length:=by omega
     rw[List.take_length]
     rw[HK.out]
     have HM:=zh (fun w=>ref02_May v HG5.out.1.2.2.to64.1 w)
     rw[HG5.out.1.1] at HM
     have hsz:(v.str.size:Int)<=(K:Int):=by have:=HG5.out.2;unfold Sz at this;omega
     have HL2:=zh (fun (X:World) (hb:Below w.heap.size w X)=>lives1 X (HL.out.hp.below hb (Nat.le_refl _)) (HL.out.hM.below hb))
     have hcd:(v.code != 1 || ringG ents)=true:=by
      cases hr:ringG ents with
      | true=>simp
      | false =>
        have h1:=HG5.out.1.2.1 hr
        simp[h1]
     obtain⟨rg,hrg⟩:∃ rg,ringG ents=rg:=⟨_,rfl⟩
     rw[hrg] at hcd ⊢
     clear hrg hB5 T0
     cases hc1:(v.code != 1)<;>rw[hc1] at hcd
     all_goals
      cases rg
      all_goals first
       | (exfalso;simp at hcd;done)
       | (go_wp2_with(first
           | (go_at_call 15;refine mB (HM.out _) ?_;intro l6 m6)
           | (go_at_call 13;refine mB (HL2.out _ (HBW.out.trans (Below.mono (B:=wr.heap.size) bel (by have:=HBW.out.size;omega)))) ?_;intro l7 m7))
          go_ret
          exact⟨rfl,HBW.out.trans (Below.mono (B:=wr.heap.size) bel (by have:=HBW.out.size;omega))⟩)
theorem evalShort {w:World} {xs:List Nx} {Af Ac ta:Option Addr} {nf nc:Nat} {es:List En} {told:List Td} {tx:Int} (h:LawIn12 w xs Af nf es Ac nc told ta tx) (cf cc tc:Nat) (hn:Bool) :
  Calls Tryz.prog 4 #[.agg #[.slice Af nf cf],.agg #[.slice Ac nc cc,.int .i64 tx,.bool hn,.slice ta told.length tc]] w fun e w'=>e=.returned (.bool true)/\Below w.heap.size w w':=by
 cases hn
 ·exact evalShort_false h cf cc tc
 ·exact evalShort_true h cf cc tc
end Go.Proofs.YtppghgnhlgoagaaGreatDoor
