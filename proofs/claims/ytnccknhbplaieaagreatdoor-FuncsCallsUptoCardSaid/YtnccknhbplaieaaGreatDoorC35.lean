/- Parts. -/
import Derived.Test.YtnccknhbplaieaaGreatDoorC05
import Derived.Test.YtnccknhbplaieaaGreatDoorC34
set_option linter.all false
set_option maxRecDepth 100000
set_option maxHeartbeats 4000000
namespace Go.Proofs.YtnccknhbplaieaaGreatDoor
open Go Go.RowKit Go.Proofs.Tryz
open Go.World renaming block_lt_of_cell?->Q3
open _root_.List renaming take_of_length_le->Q4,getElem?_map->Q5
theorem ent_own {s:ByteArray} {fn fn1:Fn} {first cap first1 cap1:Array Value} {w:World} {x y:Int} {d:Doer} (h:EntE w s (.agg #[.func fn first cap,.func fn1 first1 cap1])) (ho:zAg s=some (x,y,d)) :
  ∃ pl pm pd f,fn=.func 175/\first= #[]/\cap= #[.pointer (some ⟨pl,0,none⟩),.pointer (some ⟨pm,0,none⟩)]/\fn1=.func 176/\first1= #[]/\cap1= #[.pointer (some ⟨pd,0,none⟩)] /\
    w.cell? ⟨pl,0,none⟩=some (.int .i64 x)/\w.cell? ⟨pm,0,none⟩=some (.int .i64 y)/\w.cell? ⟨pd,0,none⟩=some f/\DoOK w f d:=by
 rcases h with ⟨x',y',d',e1,pl,pm,pd,f,ev,h1,h2,h3,h4⟩|⟨i,e1,_⟩
 ·rw[ho] at e1;cases e1;injection ev with ev;cases ev;exact⟨pl,pm,pd,f,rfl,rfl,rfl,rfl,rfl,rfl,h1,h2,h3,h4⟩
 ·rw[own_lay s ho] at e1;cases e1
theorem all_take {α:Type} {xs:List α} {k:Nat} {a:α} (h:xs[k]? =some a) (f:α->Bool):(xs.take (k+1)).all f=((xs.take k).all f&&f a):=by
 rw[zAJ h];simp
def callG (ok:Arg->Bool) (s:ByteArray) (xs:List Arg) (r:V):V:=if xs.all ok&&zBK s (xs.map Arg.many) then r else errG 8
theorem table_allR (b:Nat) (w:World) (d:Int) (m:Nat) (hd: ¬ d=0) (h0:w.cell? ⟨b,0,none⟩=some (.int .u32 d)) (h3:w.cell? ⟨b,3,none⟩=some (.map (some m))):Rt 11 #[.pointer (some ⟨b,0,none⟩)] w (.map (some m)):=by
 have hmf:∀ (fn:Fn) (first cap:Array Value) (w:World),(Instr.makeFunc fn first cap).run prog w=.ok (.func fn first cap) w:=fun _ _ _ _=>rfl;have hlt:=cell_lt h0;go_enter func11,ntmps11;go_wp2_with(go_at_call 26;refine(once_done ⟨b,0,none⟩ d hd _ _ (by go_simp)).mono ?_;rintro e w1 ⟨rfl,rfl⟩)
 all_goals go_ret;all_goals exact rb_
theorem own_sliceC {w:World} {base e size n:Nat} {v:Value} {xs:List Value} (h:w.ownsRow base e size v n xs):∃ A c,v=.slice A n c:=by
 rcases h.2 with ⟨h1,h2⟩|⟨g,cap,cur,e1,_⟩
 ·subst h2;exact⟨_,_,h1⟩
 ·exact⟨_,_,e1⟩
def funO (pl pm pd:Nat):Obj:=.cells #[.func (.func 175) #[] #[.pointer (some ⟨pl,0,none⟩),.pointer (some ⟨pm,0,none⟩)],.func (.func 176) #[] #[.pointer (some ⟨pd,0,none⟩)]] 58
open Go.Lib renaming hid->zh
theorem ownTab_lows {s:ByteArray} {x y:Int} {d:Doer} (h:zAg s=some (x,y,d)):1<=x/\1<=y:=by
 unfold zAg at h
 iterate 16
  rcases ite_some h with e|h
  ·cases e;decide
 cases h
section
variable {w w':World} {N:Nat}
theorem zero_cell (hZ:w.heap[N]? =some zeroV):w.cell? ⟨N,0,none⟩=some (.int .i64 0):=cell_blk (i:=0) hZ rfl
theorem zero_cell1 (hZ:w.heap[N]? =some zeroV):w.cell? ⟨N,1,none⟩=some (.int .i64 0):=cell_blk (i:=1) hZ rfl
theorem ne_zero {p:Nat} {u:Value} (hZ:w.heap[N]? =some zeroV) (h:w.cell? ⟨p,0,none⟩=some u) (hu:u≠.int .i64 0):p≠N:=fun e=>by
 subst e;rw[zero_cell hZ] at h;exact hu (Option.some.inj h).symm
theorem keep_ne (hk:∀ k,k<w.heap.size->k≠N->w'.heap[k]? =w.heap[k]?) {p i:Nat} {u:Value} (h:w.cell? ⟨p,i,none⟩=some u) (hp:p≠N):w'.cell? ⟨p,i,none⟩=some u :=
 (World.cell?_of_block (a:=⟨p,i,none⟩) (hk p (Q3 w _ h) hp)).trans h
theorem DoOK.func {f:Value} {d:Doer} (h:DoOK w f d):f≠.int .i64 0:=by
 cases d with
 | plain k=>cases h;exact fun e=>by cases e
 | truths k=>obtain⟨p,h1,_⟩:=h;cases h1;exact fun e=>by cases e
 | tagged t=>obtain⟨p,h1,_⟩:=h;cases h1;exact fun e=>by cases e
theorem DoOK.zero {f:Value} {d:Doer} (h:DoOK w f d) (hZ:w.heap[N]? =some zeroV) (hs:w.heap.size<=w'.heap.size) (hk:∀ k,k<w.heap.size->k≠N->w'.heap[k]? =w.heap[k]?):DoOK w' f d:=by
 cases d with
 | plain k=>exact h
 | truths k =>
   obtain⟨p,h1,h2⟩:=h;exact⟨p,h1,keep_ne hk h2 (ne_zero hZ h2 (fun e=>by cases e))⟩
 | tagged t =>
   obtain⟨p,h1,h2,h3⟩:=h;have hp:p≠N:=fun e=>by
    subst e;have:=h3.2 1 _ (zero_cell1 hZ);omega
   exact⟨p,h1,keep_ne hk h2 hp,h3.of_block hs (hk p h3.1 hp)⟩
theorem EntE.zero {s:ByteArray} {v:Value} (h:EntE w s v) (hZ:w.heap[N]? =some zeroV) (hs:w.heap.size<=w'.heap.size) (hk:∀ k,k<w.heap.size->k≠N->w'.heap[k]? =w.heap[k]?):EntE w' s v:=by
 rcases h with ⟨x,y,d,e,pl,pm,pd,f,ev,h1,h2,h3,h4⟩|⟨i,e,pb,pn,ev,h0,h1,h2,h3⟩
 ·have hl:=ownTab_lows e;refine .inl ⟨x,y,d,e,pl,pm,pd,f,ev,keep_ne hk h1 (ne_zero hZ h1 ?_),keep_ne hk h2 (ne_zero hZ h2 ?_),keep_ne hk h3 (ne_zero hZ h3 h4.func),h4.zero hZ hs hk⟩
  ·intro e1;injection e1 with _ e1;omega
  ·intro e1;injection e1 with _ e1;omega
 ·have hp:=ne_zero hZ h0 (fun e=>by cases e);exact .inr ⟨i,e,pb,pn,ev,keep_ne hk h0 hp,keep_ne hk h1 hp,keep_ne hk h2 hp,keep_ne hk h3 (ne_zero hZ h3 (fun e=>by cases e))⟩
theorem zB8.zero {m:Nat} (h:zB8 w m) (hZ:w.heap[N]? =some zeroV) (hs:w.heap.size<=w'.heap.size) (hk:∀ k,k<w.heap.size->k≠N->w'.heap[k]? =w.heap[k]?):zB8 w' m:=by
 have hl:=h.lt;obtain⟨L,h3,h4,h5⟩:=h;have hm:m≠N:=fun e=>by
  subst e;rw[hZ] at h3;cases h3
 exact⟨L,(hk m hl hm).trans h3,fun s v hv=>(h4 s v hv).zero hZ hs hk,h5⟩
theorem Ready.zero {b:Nat} (h:Ready w b) (hZ:w.heap[N]? =some zeroV) (hs:w.heap.size<=w'.heap.size) (hk:∀ k,k<w.heap.size->k≠N->w'.heap[k]? =w.heap[k]?):Ready w' b:=by
 obtain⟨d,m,hd,h0,h3,hM⟩:=h;have hb:=ne_zero hZ h0 (fun e=>by cases e);exact⟨d,m,hd,keep_ne hk h0 hb,keep_ne hk h3 hb,hM.zero hZ hs hk⟩
end
theorem more_alloc_ne {wB:World} {o o':Obj} {l:List Obj} {q k:Nat} (hk:k≠wB.heap.size):(more (wB.alloc o') l q).heap[k]? =(more (wB.alloc o) l q).heap[k]? :=by
 by_cases h:k<wB.heap.size+1
 ·rw[zBh (by simpa using h),zBh (by simpa using h)];have h1:k<wB.heap.size:=by omega
  rw[Below.heap_alloc wB o' k h1,Below.heap_alloc wB o k h1]
 ·unfold more;simp only;rw[Array.getElem?_append_right (by simp;omega),Array.getElem?_append_right (by simp;omega)];simp
theorem ready_end {wB:World} {o':Obj} {l:List Obj} {q b:Nat} (h:Ready (more (wB.alloc zeroV) l q) b):Ready (more (wB.alloc o') l q) b :=
 h.zero (N:=wB.heap.size) (by rw[zBh (by simp)];exact heap_alloc_new wB zeroV) (by simp) (fun k _ hk=>more_alloc_ne hk)
theorem turn_split {w w1:World} {b:Nat} {o:Obj} (hb:b<w.heap.size) (h:Turn b (w.alloc o) w1):∃ wB l q,wB.heap.size=w.heap.size/\Turn b w wB/\w1=more (wB.alloc o) l q:=by
 obtain⟨h1,h2,h3,h4,h5⟩:=h;have hs:w.heap.size+1<=w1.heap.size:=by simpa using h4
 let wB:World:= { w with heap:=(w1.heap.toList.take w.heap.size).toArray }
 have hB:wB.heap.size=w.heap.size:=by simp[wB];omega
 have hc:∀ k,k<w.heap.size->wB.heap[k]? =w1.heap[k]? :=fun k hk=>by simp[wB,List.getElem?_take,hk]
 have ha:Below (wB.alloc o).heap.size (wB.alloc o) w1:=by
  refine⟨h1,h2,h3,by simp[hB];omega,fun k hk=> ?_⟩;have hk':k<w.heap.size+1:=by simpa [hB] using hk
  by_cases e:k<w.heap.size
  ·rw[Below.heap_alloc wB o k (by omega),hc k e]
  ·have e2:k=w.heap.size:=by omega
   subst e2;rw[h5 _ (by simp) (by omega),heap_alloc_new w o];have:=heap_alloc_new wB o;rw[hB] at this;exact this.symm
 obtain⟨l,q,e⟩:=zA0 ha;refine⟨wB,l,q,hB,⟨rfl,rfl,rfl,Nat.le_of_eq hB.symm,fun k hk hkb=> ?_⟩,e⟩;rw[hc k hk,h5 k (by simp;omega) hkb,Below.heap_alloc w o k hk]
theorem table_CallOwnF (b:Nat) (tx:Int) (s:ByteArray) (x y:Int) (d:Doer) (ho:zAg s=some (x,y,d)) (ok:Arg->Bool) (xs:List Arg) (A:Option Addr) (n c B:Nat) (w:World) (h:TabOK w b) (hr:Reads w B 11 A n (zAY xs)) (hap:Apart b A n) (hm:n<=1000000000000)
  (hmay:∀ a∈xs,∀ w',Turn b w w'->Rt 12 #[a.agg] w' (.bool (ok a))) (r:V)
  (hdo:∀ w' pd f,Turn b w w'->w'.cell? ⟨pd,0,none⟩=some f->DoOK w' f d->between x y n=true->xs.all ok=true->Rt 176 #[.slice A n c,.int .i64 tx,.pointer (some ⟨pd,0,none⟩)] w' (vG r)) :
  Calls prog 6 #[.pointer (some ⟨b,0,none⟩),.string s,.slice A n c,.int .i64 tx] w fun e w'=>e=.returned (vG (callG ok s xs r))/\Ready w' b/\Turn b w w':=by
 have Hk:=h.lt;have hl:xs.length=n:=by
  have:=hr.1;rw[zAN] at this;omega
 have hD:=zh (show D1 50 s=true by simp[D1,own_known s ho]);obtain⟨cs,hs⟩:∃ cs,cs=(xs.map Arg.many).map Value.bool:=⟨_,rfl⟩
 have hcl:cs.length=n:=by rw[hs];simp[hl]
 have hU:∀ (j:Nat) (x:Arg),xs[j]? =some x->cs[j]? =some (.bool x.many):=fun j x hx=>by rw[hs,Q5,Q5,hx];rfl
 have hX:=zh hU;have hW:=zh hs;obtain⟨okN,hA,hn,hp⟩:∃ okN:Nat->Bool,okN 0=true/\(∀ (j:Nat) (x:Arg),xs[j]? =some x->okN (j+1)=(okN j&&ok x))/\okN n=xs.all ok:=⟨fun j=>(xs.take j).all ok,rfl,fun j x hx=>all_take hx ok,by simp only;rw[Q4 (by omega)]⟩
 have Hc:=zh hn;have hI:=zh hp;have HM:=zh hmay;have hG:=zh hdo
 have Hg:=zh hr;have Hj:=zh (h.below (show Below w.heap.size w (w.alloc zeroV) from bel));clear hU hn hp hs hmay hdo hr h;obtain⟨i0,hi,Hm,Hn,Ho⟩:=info_parts info_B;go_enter func6,ntmps6;go_wp2_with(first|(go_at_call 11;refine(table_all b _ Hj.out).mono ?_;rintro e w1 ⟨⟨m,rfl,hM⟩,hP,hS⟩;obtain⟨wB,l,q,hV,hQ,rfl⟩:=turn_split Hk hS;have Hb:=zh hM;have Hi:=zh hP;have hq:=zh hQ;clear hM hP hS hQ)|(at_lookup;refine wpList_lookI Hb.out _ _ rfl rfl rfl _ rfl ?_ ?_))
 ·intro fn first cap fn1 first1 cap1 hv
  obtain⟨pl,pm,pd,f,rfl,rfl,rfl,rfl,rfl,rfl,h1,h2,h3,h4⟩:=ent_own hv.out.1 ho;have HR:=zh (Hg.out.turn hap hq.out);have ht:=zh (fun a ha w' (hb:Below wB.heap.size wB w')=>HM.out a ha w' (hq.out.trans (.of_below hb)));have hd:=zh (fun w' pd f (hb:Below wB.heap.size wB w')=>hG.out w' pd f (hq.out.trans (.of_below hb)));unfold zeroV at h1 h2 h3 h4;clear hv HM hG;go_wp2
  go_loopw [23,10,11] (fun t o v wr=>∃ j:Nat,j<=n/\t=.int .i64 j/\o=.bool (okN j)/\zAA ((more (wB.alloc zeroV) l q).alloc (funO pl pm pd)) wr 4 1 v j (cs.take j)) (fun t _ _ _=>n-(intOf t).toNat)
  case atStart=>exact⟨0,Nat.zero_le _,rfl,by rw[hA],Below.refl _ _,World.ownsRow_nil _ _ _ _⟩
  case round =>
   obtain⟨j,hj,rfl,rfl,hR⟩:=hrel;have hC:Below wB.heap.size wB ((more (wB.alloc zeroV) l q).alloc (funO pl pm pd)):=bel;have hE:Below wB.heap.size wB wr:=hC.trans (hR.1.mono hC.size);have hws:=hE.size;by_cases hlt:j<n
   obtain⟨a,ha⟩:∃ a,xs[j]? =some a:=⟨_,List.getElem?_eq_getElem (show j<xs.length by omega)⟩
   obtain⟨bk,off,rfl,_,hc⟩:=HR.out.2 (by omega);have he:∀ i u,a.cells[i]? =some u->wr.cell? ⟨bk,off+(j*11+i),none⟩=some u:=fun i u hu=>by
    have h1:=hc _ u (zAP xs j a ha i u hu);exact(hE.cell (p:=⟨bk,_,none⟩) (Q3 wB _ h1)).trans h1
   obtain⟨c0,c1,c2,c3,c4,c5,c6,c7,c8,c9,c10⟩:=tkB he;simp only[<- Nat.add_assoc,Nat.add_zero] at c0 c1 c2 c3 c4 c5 c6 c7 c8 c9 c10;have HG:=zh hR;have hy:=zh (List.mem_of_getElem? ha);have hH:=ht.out a hy.out;have Ha:=zh hH;clear he hR hc hH h1 h2 h3 h4 hC;cases hokj:okN j
   rotate_left
   rotate_left
   ·obtain rfl:j=n:=by omega
    rw[Q4 (by omega)] at hR;obtain⟨hB,hO⟩:=hR;have hk:Keeps (more (wB.alloc zeroV) l q) wr:=Keeps.trans kps (zAr hB);have hJ:=hk.cell _ _ _ h1;have hK:=hk.cell _ _ _ h2;have hL:=hk.cell _ _ _ h3;have hN:=h4.keeps hk;have He:=zh hJ;have Hf:=zh hK;have Hd:=zh hL;have hw:=zh hN;obtain⟨xsB,hF⟩:∃ xsB,xsB=xs.map Arg.many:=⟨_,rfl⟩
    rw[hW.out,<-hF] at hO;obtain⟨A',c',rfl⟩:=own_sliceC hO;have Hh:=zh (Reads.zAC hO);have Hl:xsB.length=j:=by rw[hF,List.length_map,hl]
    have hh:zBK s (xs.map Arg.many)=(between x y j&& !zAU xsB):=by rw[<- hF];simp[zBK,ho,Hl]
    have hpd:=Q3 _ _ hL;obtain⟨l2,q2,rfl⟩:=zA0 hB;clear h1 h2 h3 h4 hJ hK hN hk hO hB;unfold zeroV funO at *;cases hokj:okN j;have e:callG ok s xs r=errG 8:=by
     have h1:=hI.out;rw[hokj] at h1;simp[callG,<-h1]
    have E:=zh e;clear e hd
    rotate_left
    have h1:=hI.out;rw[hokj] at h1;cases htk:(between x y j&& !zAU xsB);have e:callG ok s xs r=errG 8:=by
     rw[htk] at hh;simp[callG,hh]
    have E:=zh e;clear e hd h1 hh
    rotate_left
    have e:callG ok s xs r=r:=by
     rw[htk] at hh;simp[callG,hh,<-h1]
    have E:=zh e;have hT:between x y j=true:=by
     cases h2:between x y j
     ·rw[h2] at htk;cases htk
     ·rfl
    have hY:=zh (fun w' pd f h2 h3 h4=>hd.out w' pd f h2 h3 h4 hT h1.symm);clear e hd h1 hh hT;all_goals
     go_wp2_with(first|(go_at_call 13;refine mB (zA3 _ _) ?_;intro l3 q3)|(go_at_call 175;refine(singles1 pl pm x y A' j c' xsB _ _ (He.out) (Hf.out) Hh.out (by omega)).mono ?_;rintro e w4 ⟨rfl,hb⟩;rw[htk];obtain⟨l4,q4,rfl⟩:=zA0 hb;clear hb)|(go_at_call 176;refine Calls.mono (hY.out _ pd f ?_ ?_ ?_) ?_;(exact bel);(rw[<- zAQ (l:=l2) (n:=q2)];exact(keeps_more (keeps_refl _) _ _).cell _ _ _ Hd.out);(rw[<- zAQ (l:=l2) (n:=q2)];exact hw.out.keeps (keeps_more (keeps_refl _) _ _));rintro e w5 ⟨rfl,hb⟩;obtain⟨l5,q5,rfl⟩:=zA0 hb;clear hb))
     all_goals(simp only[<- hV];go_returns);exact⟨by rw[E.out],(ready_end Hi.out).below bel,hq.out.trans (.of_below bel)⟩
   all_goals
    have hz:=Hc.out j a ha;rw[hokj] at hz;go_wp2_with(first|(at_builtin;refine wpList_append_own _ rfl _ _ 61 rfl ((more (wB.alloc zeroV) l q).alloc (funO pl pm pd)).heap.size 4 i0 _ 1 1 underlying61 hi Hm Hn Ho rfl (by decide) _ _ _ rfl (own_below HG.out.2 bel) _ 1 1 [.bool a.many] rfl rfl ?_ ?_ ?_ ?_ ?_ ?_)|(go_at_call 12;refine mB (Ha.out _ bel) ?_;intro l2 q2))
    ·exact fun i u hu=>zAO (by simp) i u hu
    ·intro u hu;simp only[List.mem_cons,List.not_mem_nil,or_false] at hu;subst hu
     rfl
    ·simp only[maxLen];omega
    ·omega
    ·have h1:=HG.out.1.size;simp at h1 ⊢;omega
    ·intro v' w3 hg hf _;have R:=zAA.step HG.out bel (show w3.ownsRow ((more (wB.alloc zeroV) l q).alloc (funO pl pm pd)).heap.size 4 1 v' (j+1) (cs.take j++[.bool a.many]) from by simpa [hV] using hg) hf;rw[<- zAJ (hX.out j a ha)] at R;have hZ:=zh R;have HJ:=zh hz;clear hg hf R HG c0 c1 c2 c3 c4 c5 c6 c7 c8 c9 c10 hokj hz hE;go_wp2;go_roundw;case rel=>exact⟨j+1,by omega,by go_num,by rw[HJ.out];rfl,hZ.out⟩
     case measure=>simp[intOf];omega
 ·intro hv;have h1:=hv.out;rw[hD.out] at h1;cases h1
end Go.Proofs.YtnccknhbplaieaaGreatDoor
