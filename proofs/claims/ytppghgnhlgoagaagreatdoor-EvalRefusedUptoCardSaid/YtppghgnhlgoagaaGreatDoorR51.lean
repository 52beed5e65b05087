/-
  Parts of a proof.
-/
import Derived.Test.YtppghgnhlgoagaaGreatDoorR48
import Derived.Test.YtppghgnhlgoagaaGreatDoorR50
set_option linter.all false
set_option maxRecDepth 100000
set_option maxHeartbeats 4000000
namespace Go.Proofs.YtppghgnhlgoagaaGreatDoor
open Go Go.RowKit
theorem below_pre {w:World} {l L:List Obj} {n N:Nat} (h:l <+: L):Below (more w l n).heap.size (more w l n) (more w L N):=by
 obtain⟨r,rfl⟩:=h
 refine⟨rfl,rfl,rfl,by simp,fun k hk=> ?_⟩
 simp only[zAV] at hk
 unfold more
 simp only
 by_cases h1:k<w.heap.size
 ·rw[Array.getElem?_append_left h1,Array.getElem?_append_left h1]
 ·rw[Array.getElem?_append_right (by omega),Array.getElem?_append_right (by omega)]
  simp only[List.getElem?_toArray]
  rw[List.getElem?_append_left (by omega)]
theorem fresh_block {w w':World} {b:Nat} (h:Fresh w b) (hb:w'.heap[b]? =w.heap[b]?):Fresh w' b :=
 ⟨(World.cell?_of_block (a:=⟨b,0,none⟩) hb).trans h.1,(World.cell?_of_block (a:=⟨b,1,none⟩) hb).trans h.2.1,(World.cell?_of_block (a:=⟨b,3,none⟩) hb).trans h.2.2.1,fun i=>(World.frozen?_of_block (a:=⟨b,i,none⟩) hb).trans (h.2.2.2 i)⟩
theorem new_letter (w:World):Calls Tryz.prog 8 #[] w fun e w'=>∃ p,e=.returned (.pointer (some ⟨p,0,none⟩))/\Fresh w' p/\w.heap.size<=p/\p<w'.heap.size/\Below w.heap.size w w' :=
 (table_New w).mono fun e w' h=>⟨_,h.1,h.2.1,Nat.le_refl _,zA5 h.2.1.1,h.2.2⟩
theorem evnew_letter (tp:Addr) (text:Int) (h1:1<=text) (h2:text<=1024) (w:World):Calls Tryz.prog 7 #[.pointer (some tp),.int .i64 text,.nilIface] w fun e w'=>∃ p,e=.returned (.pointer (some ⟨p,0,none⟩))/\AtB w' p (zAl tp text .nilIface)/\w.heap.size<=p/\p<w'.heap.size/\Below w.heap.size w w' :=
 (eval_New tp text h1 h2 w).mono fun e w' h=>⟨_,h.1,h.2.1,Nat.le_refl _,zA5 (h.2.1 0 _ rfl),h.2.2⟩
theorem evnew_letterH (tp:Addr) (text:Int) (t:TypeId) (a:Addr) (h1:1<=text) (h2:text<=1024) (w:World):Calls Tryz.prog 7 #[.pointer (some tp),.int .i64 text,.iface t (.pointer (some a))] w fun e w'=>∃ p,e=.returned (.pointer (some ⟨p,0,none⟩))/\AtB w' p (zAl tp text (.iface t (.pointer (some a))))/\w.heap.size<=p/\p<w'.heap.size/\Below w.heap.size w w' :=
 (eval_NewH tp text t a h1 h2 w).mono fun e w' h=>⟨_,h.1,h.2.1,Nat.le_refl _,zA5 (h.2.1 0 _ rfl),h.2.2⟩
theorem host_letter (pt:Nat) (cv tx tv:Value) (hn:Bool) (w:World):Calls Tryz.prog 10 #[.pointer (some ⟨pt,0,none⟩),.agg #[cv,tx,.bool hn,tv]] w fun e w'=>∃ hv,hv=(if hn then Value.nilIface else .iface 31 (.pointer (some ⟨pt,0,none⟩)))/\e=.returned hv/\Below w.heap.size w w' :=
 (law_host pt cv tx tv hn w).mono fun e w' h=>⟨_,rfl,h⟩
theorem evnew_any (tp:Addr) (text:Int) (hn:Bool) (t:TypeId) (a:Addr) (hv:Value) (hh:hv=(if hn then Value.nilIface else .iface t (.pointer (some a)))) (h1:1<=text) (h2:text<=1024) (w:World):Calls Tryz.prog 7 #[.pointer (some tp),.int .i64 text,hv] w fun e w'=>∃ p,e=.returned (.pointer (some ⟨p,0,none⟩))/\AtB w' p (zAl tp text hv)/\w.heap.size<=p/\p<w'.heap.size/\Below w.heap.size w w':=by
 subst hh
 cases hn
 ·exact evnew_letterH tp text t a h1 h2 w
 ·exact evnew_letter tp text h1 h2 w
theorem tbG_all {EA:List En} {told:List Td} (h1:∀ e∈EA,mayG e.v=true/\Is64 e.v.num/\e.v.str.size<=1048576) (hl:EA.length<=1048576) (ht:∀ e∈told,Is64 e.v.num) (pt c tc tp:Nat) (A ta:Option Addr) (hn hb:Bool):TbG False 1048576 ⟨pt,A,c,EA,hn,ta,tc,told,tp,hb⟩ :=
 ⟨fun e he=>⟨⟨(h1 e he).1,fun h=>h.elim,may_in (h1 e he).1 (h1 e he).2.1⟩,(h1 e he).2.2⟩,hl,ht⟩
open Go.Lib renaming hid->zh
theorem fault12R (c:Int) (w:World):Rt 14 #[.int .i64 c] w (.agg #[.int .i64 4,.int .i64 0,.string ⟨#[]⟩,.bool false,.int .i64 c]):=by
 go_enter Tryz.func14,Tryz.ntmps14
 go_wp2
 exact bodyPost_ret (by simp[results,Tryz.results14,go_sem];try rfl) rfl ⟨rfl,bel⟩
theorem eq_r8 (w:World):(binOp .eql 44 (Value.agg #[Value.int .i64 (errG 8).tag,Value.int .i64 (errG 8).num,Value.string (errG 8).str,Value.bool (errG 8).is,Value.int .i64 (errG 8).code]) (.agg #[.int .i64 4,.int .i64 0,.string ⟨#[]⟩,.bool false,.int .i64 8])).run Tryz.prog w=.ok (.bool true) w:=by rw[eqlV];rfl
theorem evalRefused {w:World} {xs:List Nx} {Af Ac ta:Option Addr} {nf nc:Nat} {es:List En} {told:List Td} {tx:Int} (h:LawIn12 w xs Af nf es Ac nc told ta tx) (cf cc tc:Nat) (hn:Bool) :
  Rt 3 #[.agg #[.slice Af nf cf],.agg #[.slice Ac nc cc,.int .i64 tx,.bool hn,.slice ta told.length tc]] w (.bool true):=by
 have HL:=zh h
 have HCK:=zh (fun (X:World) (hb:Below w.heap.size w X)=>ref05_Check xs Af nf cf w.heap.size X (h.hf.below hb) (by have:=h.nf;omega) (fun x hx=>by have:=h.nm x hx;omega) h.x64)
 have HL2:=zh (fun (X:World) (hb:Below w.heap.size w X)=>lives1 X (h.hp.below hb (Nat.le_refl _)) (h.hM.below hb))
 have hpk:=pick_bd tx 1024 (by omega)
 obtain⟨P,hP⟩:∃ P,pickG tx 1024=P:=⟨_,rfl⟩
 rw[hP] at hpk
 have hwp:IntKind.i64.wrap (1+P)=1+P:=by rw[IntKind.wrap_i64];omega
 have hle:(tabE es).length<=nc:=by
  have h1:=tabE_len es es.length
  rw[List.take_length] at h1
  have h2:es.length=nc:=by
   have:=h.he.1
   rw[zAJ En.cells 7 En.cells_length] at this
   omega
  omega
 have hncB:=h.nc
 clear h
 go_enter Tryz.func3,Tryz.ntmps3
 go_upto_region 2 with (go_at_call 6;refine(law_table es told Ac ta nc cc tc (.int .i64 tx) hn _ ((HL.out.he.below bel).lift (by go_size)) HL.out.nc HL.out.e64 ((HL.out.ht.below bel).lift (by go_size))).mono ?_;rintro e w1 ⟨A1,c1,rfl,hb,hS⟩;have HSA:=zh hS;obtain⟨l1,m1,rfl⟩:=zA0 hb;clear hb hS)
 obtain⟨EA,hEA⟩:∃ EA,tabE es=EA:=⟨_,rfl⟩
 rw[hEA] at HSA hle
 have HEA:=zh hEA
 obtain⟨pa,hpa⟩:∃ pa,w.heap.size+1+1+1=pa:=⟨_,rfl⟩
 obtain⟨W,hWe⟩:∃ W,more ((w.alloc (.cells #[.slice Af nf cf] 24)).alloc (.cells #[.slice Ac nc cc,.int .i64 tx,.bool hn,.slice ta told.length tc] 30)) l1 m1=W:=⟨_,rfl⟩
 have hKW:Below w.heap.size w W:=by rw[<- hWe];exact bel
 have hSA:∀ tp,SrcG W W.heap.size ⟨pa,A1,c1,EA,hn,ta,tc,told,tp,hn⟩ (.slice none 0 0) 0 []:=fun tp=>by
  have h:=HSA.out tp
  rw[hWe] at h
  simp only[alz] at h
  rw[hpa] at h
  exact h
 have hX1:AtB ((w.alloc (.cells #[.slice Af nf cf] 24)).alloc (.cells #[.slice Ac nc cc,.int .i64 tx,.bool hn,.slice ta told.length tc] 30)) w.heap.size [.slice Af nf cf]:=AtB.zB5 (AtB.new rfl) _
 have hX2:AtB ((w.alloc (.cells #[.slice Af nf cf] 24)).alloc (.cells #[.slice Ac nc cc,.int .i64 tx,.bool hn,.slice ta told.length tc] 30)) (w.heap.size+1) [.slice Ac nc cc,.int .i64 tx,.bool hn,.slice ta told.length tc]:=AtB.new (by rw[alz])
 have hbf:AtB W w.heap.size [.slice Af nf cf]:=by
  have h:=hX1.below (show Below ((w.alloc (.cells #[.slice Af nf cf] 24)).alloc (.cells #[.slice Ac nc cc,.int .i64 tx,.bool hn,.slice ta told.length tc] 30)).heap.size ((w.alloc (.cells #[.slice Af nf cf] 24)).alloc (.cells #[.slice Ac nc cc,.int .i64 tx,.bool hn,.slice ta told.length tc] 30)) (more ((w.alloc (.cells #[.slice Af nf cf] 24)).alloc (.cells #[.slice Ac nc cc,.int .i64 tx,.bool hn,.slice ta told.length tc] 30)) l1 m1) from bel)
  rw[hWe] at h
  exact h
 have hbw:AtB W (w.heap.size+1) [.slice Ac nc cc,.int .i64 tx,.bool hn,.slice ta told.length tc]:=by
  have h:=hX2.below (show Below ((w.alloc (.cells #[.slice Af nf cf] 24)).alloc (.cells #[.slice Ac nc cc,.int .i64 tx,.bool hn,.slice ta told.length tc] 30)).heap.size ((w.alloc (.cells #[.slice Af nf cf] 24)).alloc (.cells #[.slice Ac nc cc,.int .i64 tx,.bool hn,.slice ta told.length tc] 30)) (more ((w.alloc (.cells #[.slice Af nf cf] 24)).alloc (.cells #[.slice Ac nc cc,.int .i64 tx,.bool hn,.slice ta told.length tc] 30)) l1 m1) from bel)
  rw[hWe] at h
  exact h
 have t1:W.cell? ⟨w.heap.size+1,1,none⟩=some (.int .i64 tx):=hbw 1 _ rfl
 have t0:W.cell? ⟨w.heap.size+1,0,none⟩=some (.slice Ac nc cc):=hbw 0 _ rfl
 have t2:W.cell? ⟨w.heap.size+1,2,none⟩=some (.bool hn):=hbw 2 _ rfl
 have t3:W.cell? ⟨w.heap.size+1,3,none⟩=some (.slice ta told.length tc):=hbw 3 _ rfl
 have t4:W.cell? ⟨w.heap.size,0,none⟩=some (.slice Af nf cf):=hbf 0 _ rfl
 have a1:W.cell? ⟨pa,1,none⟩=some (.slice none 0 0):=(hSA 0).at0 1 _ rfl
 have lt1:=zA5 t1
 have lt4:=zA5 t4
 have la:=zA5 a1
 have hpw:w.heap.size<pa:=by omega
 have hpaW:pa<W.heap.size:=(hSA 0).lt
 have HS:=zh hSA
 have HKW:=zh hKW
 rw[hWe,hpa]
 clear hWe hpa hKW hSA hX1 hX2 hbf hbw HSA hEA
 go_cut [6] from 10 to 18 (fun sx wx=>∃ tp pe:Nat,sx=.pointer (some ⟨pe,0,none⟩)/\Fresh wx tp/\AtB wx pe (zAl ⟨tp,0,none⟩ (1+P) (if hn then Value.nilIface else .iface 31 (.pointer (some ⟨pa,0,none⟩))))/\W.heap.size<=tp/\tp<pe/\pe<wx.heap.size/\Below W.heap.size W wx)
 case first =>
  go_region_law (first
   | (go_simp;go_at_call 8;refine(new_letter _).mono ?_;rintro e w1 ⟨tp1,rfl,hF1,hp1,hq1,hb⟩;have HF1:=zh hF1;obtain⟨l2,m2,rfl⟩:=zA0 hb;clear hb hF1)
   | (go_simp;go_at_call 9;refine(law_pick tx 1024 HL.out.tx (by omega) _).mono ?_;rintro e w1 ⟨rfl,rfl⟩)
   | (go_simp;go_at_call 10;refine(host_letter _ _ _ _ hn _).mono ?_;rintro e w1 ⟨hv1,hh1,rfl,hb⟩;have hhv1:=zh hh1;clear hh1;obtain⟨l3,m3,rfl⟩:=zA0 hb;clear hb)
   | (go_simp;go_at_call 7;refine(evnew_any ⟨tp1,0,none⟩ (1+P) hn _ _ hv1 hhv1.out (by omega) (by omega) _).mono ?_;rintro e w1 ⟨pe1,rfl,hE1,hr1,hs1,hb⟩;have HE1:=zh hE1;obtain⟨l4,m4,rfl⟩:=zA0 hb;clear hb hE1))
  all_goals
   go_wp2_with fail
   go_meet
   refine⟨tp1,pe1,rfl,fresh_block HF1.out ((below_pre ⟨l3++l4,by simp⟩).block _ hq1),(by have h:=HE1.out;rw[hhv1.out] at h;simp only[zAS,List.append_assoc] at h;exact h),?_,?_,?_,bel⟩
   all_goals(simp at hp1 hq1 hr1 hs1 ⊢;omega)
 case rest =>
  obtain⟨tp1,pe1,rfl,hF1,hE1,h11,h12,h13,hB1⟩:=hcut
  obtain⟨wA,rfl⟩:∃ wA,wA=wc:=⟨_,rfl⟩
  have hsA:=hB1.size
  replace t4:=cell_below t4 hB1
  replace a1:=cell_below a1 hB1
  replace lt4:=zA5 t4
  replace la:=zA5 a1
  have hX:=HKW.out.trans (hB1.mono HKW.out.size)
  have hsX:=hX.size
  have HX:=zh (And.intro hX (And.intro hF1 (And.intro hE1 hB1)))
  clear hF1 hE1 hB1 hX t0 t1 t2 t3 lt1
  go_wp2_with fail
  cases hck:zBF xs
  ·rw[hck] at HCK
   have HCF:=zh hck
   have hq:=eq_r8
   clear hck
   refine(eval_WorkNo xs Af nf cf w.heap.size _ _ wA (HL.out.hf.below HX.out.1) HL.out.nf HCF.out (fun x hx=>by have:=HL.out.nm x hx;omega)).mono ?_
   rintro e w5 ⟨rfl,hb⟩
   have a5:=cell_below a1 hb
   have t5:=cell_below t4 hb
   have la5:=zA5 a5
   have lt5:=zA5 t5
   have hX5:=HX.out.1.trans (hb.mono hsX)
   have hs5:=hX5.size
   have HX5:=zh hX5
   clear hb hX5 a1 t4 la lt4
   go_wp2_with(go_at_call 12;refine(HCK.out _ (HX5.out.trans (Below.mono (B:=w5.heap.size) bel hs5))).mono ?_;rintro e w6 ⟨rfl,hb6⟩;have z0:w6.cell? ⟨w5.heap.size,0,none⟩=some (.int .i64 (errG 8).tag):=cell_below (w:=(w5.alloc (.cells #[.int .i64 (errG 8).tag,.int .i64 (errG 8).num,.string (errG 8).str,.bool (errG 8).is,.int .i64 (errG 8).code] 44))) ((AtB.new rfl) 0 _ rfl) hb6;have z1:w6.cell? ⟨w5.heap.size,1,none⟩=some (.int .i64 (errG 8).num):=cell_below (w:=(w5.alloc (.cells #[.int .i64 (errG 8).tag,.int .i64 (errG 8).num,.string (errG 8).str,.bool (errG 8).is,.int .i64 (errG 8).code] 44))) ((AtB.new rfl) 1 _ rfl) hb6;have z2:w6.cell? ⟨w5.heap.size,2,none⟩=some (.string (errG 8).str):=cell_below (w:=(w5.alloc (.cells #[.int .i64 (errG 8).tag,.int .i64 (errG 8).num,.string (errG 8).str,.bool (errG 8).is,.int .i64 (errG 8).code] 44))) ((AtB.new rfl) 2 _ rfl) hb6;have z3:w6.cell? ⟨w5.heap.size,3,none⟩=some (.bool (errG 8).is):=cell_below (w:=(w5.alloc (.cells #[.int .i64 (errG 8).tag,.int .i64 (errG 8).num,.string (errG 8).str,.bool (errG 8).is,.int .i64 (errG 8).code] 44))) ((AtB.new rfl) 3 _ rfl) hb6;have z4:w6.cell? ⟨w5.heap.size,4,none⟩=some (.int .i64 (errG 8).code):=cell_below (w:=(w5.alloc (.cells #[.int .i64 (errG 8).tag,.int .i64 (errG 8).num,.string (errG 8).str,.bool (errG 8).is,.int .i64 (errG 8).code] 44))) ((AtB.new rfl) 4 _ rfl) hb6;have a6:w6.cell? ⟨pa,1,none⟩=some (.slice none 0 0):=cell_below (w:=(w5.alloc (.cells #[.int .i64 (errG 8).tag,.int .i64 (errG 8).num,.string (errG 8).str,.bool (errG 8).is,.int .i64 (errG 8).code] 44))) (zAA a5 _) hb6;have lz:=zA5 z0;have la6:=zA5 a6;have hX6:=HX5.out.trans (Below.mono (B:=w5.heap.size) (Below.trans (show Below w5.heap.size w5 (w5.alloc (.cells #[.int .i64 (errG 8).tag,.int .i64 (errG 8).num,.string (errG 8).str,.bool (errG 8).is,.int .i64 (errG 8).code] 44)) from bel) (hb6.mono (by rw[alz];omega))) hs5);have hs6:=hX6.size;have HX6:=zh hX6;clear hb6 hX6 a5 t5 la5 lt5)
   (refine zA2 (by kernel_rfl) (by kernel_rfl) ?_;(repeat(go_big_quiet_step (first|(go_at_call 14;exact Calls.zA7 (fault12R 8 _))|(go_at_call 13;exact Calls.zA7 (HL2.out _ (HX6.out.trans (Below.mono (B:=w6.heap.size) bel hs6)))))));refine wpQuiet_nil ?_;intro _ hw1;obtain⟨⟨lq,nq⟩,hw2⟩:=hw1;subst hw2)
   all_goals
    go_wp2
    go_ret
    exact⟨rfl,HX6.out.trans (Below.mono (B:=w6.heap.size) bel hs6)⟩
  ·rw[hck] at HCK
   clear hck
   have hEe:∀ e∈EA,mayG e.v=true/\Is64 e.v.num/\e.v.str.size<=1048576:=fun e he=>by
    rw[<- HEA.out] at he
    obtain⟨h1,h2⟩:=tabE_mem es e he
    exact⟨h2,HL.out.e64 e h1,HL.out.esz e h1⟩
   refine(eval_WorkAll xs Af nf cf w.heap.size pe1 (1+P) (if hn then Value.nilIface else .iface 31 (.pointer (some ⟨pa,0,none⟩))) False 1048576 wA W.heap.size ⟨pa,A1,c1,EA,hn,ta,tc,told,tp1,hn⟩ (HL.out.hf.below HX.out.1) HL.out.nf (fun x hx=>by have:=HL.out.nm x hx;omega) HL.out.x64 HX.out.2.2.1 (by cases hn;exact .inr ⟨rfl,rfl⟩;exact .inl ⟨rfl,rfl⟩) ((HS.out tp1).below HX.out.2.2.2) (tbG_all hEe (by omega) HL.out.oK _ _ _ _ _ _ _ _) (Nat.le_refl _) (by omega) HL.out.nt ⟨by show pa≠tp1;omega,fun h0 b off e=> ?_,fun h0 b off e=> ?_⟩ (.inr HX.out.2.1) (by show pe1≠pa;omega) (by show pe1≠tp1;omega) (fun h0 bn off e=> ?_) (fun w' hk=> ?_)).mono ?_
   ·obtain⟨b',off',e',hb,-⟩:=(HS.out 0).en.2 h0
    rw[show A1=_ from e'] at e
    cases e
    show b≠tp1
    omega
   ·obtain⟨b',off',e',hb,-⟩:=(HS.out 0).tl.2 h0
    rw[show ta=_ from e'] at e
    cases e
    show b≠tp1
    omega
   ·obtain⟨b',off',e',hb,-⟩:=HL.out.hf.2 h0
    rw[e'] at e
    cases e
    exact⟨by show bn≠pa;omega,by show bn≠tp1;omega⟩
   ·have hb:=hk.base (B:=w.heap.size) (w:=w) HX.out.1 (Nat.le_refl _) (by show w.heap.size<=pa;omega) (by show w.heap.size<=tp1;omega) (fun k e=>by cases e)
    exact⟨HL.out.hp.below hb (Nat.le_refl _),HL.out.hM.below hb⟩
   rintro e w5 ⟨rfl,hp5,-⟩
   have K5:Kept3 pa tp1 none wA w5:=hp5.kept
   have hX5:Below w.heap.size w w5:=K5.base HX.out.1 (Nat.le_refl _) (by omega) (by omega) (fun k e=>by cases e)
   have f5:w5.cell? ⟨w.heap.size,0,none⟩=some (.slice Af nf cf):=K5.cell (by omega) (by omega) (by simp) t4
   have lf5:=zA5 f5
   have HX5:=zh hX5
   have hs5:=hX5.size
   obtain⟨v,hv⟩:∃ v,(workG ⟨pa,A1,c1,EA,hn,ta,tc,told,tp1,hn⟩ (1+P) xs).1=v:=⟨_,rfl⟩
   rw[hv]
   clear hp5 K5 hX5 hv hEe t4 a1 lt4 la
   go_wp2_with(first
    | (go_at_call 12;refine mB (HCK.out _ (HX5.out.trans (Below.mono (B:=w5.heap.size) bel hs5))) ?_;intro l6 m6)
    | (go_at_call 13;refine mB (HL2.out _ (HX5.out.trans (Below.mono (B:=w5.heap.size) bel hs5))) ?_;intro l7 m7))
   go_ret
   exact⟨rfl,HX5.out.trans (Below.mono (B:=w5.heap.size) bel hs5)⟩
end Go.Proofs.YtppghgnhlgoagaaGreatDoor
