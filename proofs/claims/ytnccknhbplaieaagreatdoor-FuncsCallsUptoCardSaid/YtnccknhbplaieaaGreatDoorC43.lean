/- Parts. -/
import Derived.Test.YtnccknhbplaieaaGreatDoorC42
set_option linter.all false
set_option maxRecDepth 100000
set_option maxHeartbeats 4000000
namespace Go.Proofs.YtnccknhbplaieaaGreatDoor
open Go Go.RowKit Go.Proofs.Tryz
open Go.Lib renaming hid->zh
open _root_.Nat renaming add_zero->Q3
open Go.IntKind renaming i64->Q4
open _root_.Int renaming toNat_of_nonneg->Q5,emod_lt_of_pos->Q7
theorem scan_lt {a:Arg} {es:List En} {v:V} {i:Nat} (h:scanG a es v=some i):i<(rowsG a*colsG a).toNat:=by
 unfold scanG at h;exact List.mem_range.1 (List.mem_of_find?_eq_some h)
theorem r10_match (a0 a1:Arg) (es1:List En) (b off c:Nat) (w:World) (hc0:∀ i u,a0.cells[i]? =some u->w.cell? ⟨b,off+0+i,none⟩=some u) (hc1:∀ i u,a1.cells[i]? =some u->w.cell? ⟨b,off+11+i,none⟩=some u) (hE1:zAW w a1 es1) (hs1:zA4 a1) (hn1:a1.n<=1000000000) (hord1:zAm a1.top a1.left a1.bottom a1.right none es1=true) (hr1:1<=rowsG a1) (hc1':1<=colsG a1) :
  Rt 59 #[.slice (some ⟨b,off,none⟩) 2 c] w (vG (matchG a1 es1 a0.val)):=by
 obtain⟨c1,c2,c3,c4,c5⟩:=zBA hc0;obtain⟨d0,d1,d2,d3,d4,d5,d6,d7,d8,d9,d10⟩:=zBH hc1;have hr:=zh hc0;simp only[Q3] at c1 c2 c3 c4 c5 d0;have hb:=cltK c1;have hb1:b<w.heap.size+1:=by omega
 have hb2:b<w.heap.size+1+1:=by omega
 have hh:=zh (rows_any a1 hs1);have hg:=zh (cols_any a1 hs1);have hk:=hh;have hj:=hg;have hc:=zh (fun (hl:rowsG a1=1∨colsG a1=1) W (h:Below w.heap.size w W)=>r10_place a0.val a1 es1 W (hE1.below h) hs1 hn1 hord1 hr1 hc1' hl);have ho:=area_in hs1;have hm:(((rowsG a1*colsG a1).toNat:Nat):Int)=rowsG a1*colsG a1:=Q5 (Int.mul_nonneg (by omega) (by omega));have hA:rowsG a1<=200001:=by unfold rowsG;unfold zA4 at hs1;omega
 have hw:colsG a1<=200001:=by unfold colsG;unfold zA4 at hs1;omega
 have hd:=fun i (h:scanG a1 es1 a0.val=some i)=>scan_lt h;unfold matchG;unfold lineX at hc;obtain⟨S,hS⟩:=lt_ (scanG a1 es1 a0.val);rw[hS] at hc hd ⊢;obtain⟨ra,hf⟩:=lt_ (rowsG a1);obtain⟨ca,he⟩:=lt_ (colsG a1);rw[hf] at hh hr1 hA;rw[he] at hg hc1' hw;rw[hf,he] at hc hd ho hm;rw[hf,he];rw[hf] at hk;rw[he] at hj;clear hS hf he hc0 hc1 hE1 hs1 hord1;unfold Arg.agg at *;by_cases k1:ra=1
 subst k1;rw[if_neg (by omega)];have ha:=zh (hc.out (.inl rfl));clear hc;rcases S with _|i;dsimp only[vG] at ha
 rotate_left
 dsimp only[vG] at ha;have hi:=hd i rfl;have hp: ¬ (i:Int)<0:=by omega
 have hq:decide ((i:Int)<0)=false:=decide_eq_false hp;have ht:(i:Int)<=50000000000:=by omega
 have wi:Q4.wrap ((i:Int)+1)=(i:Int)+1:=zAS (by omega) (by omega);have HW:=zh (fun W=>whole_any ((i:Int)+1) (by omega) (by omega) W);dsimp only[vG];obtain⟨x,hx⟩:=lt_ ((i:Int) / ca);obtain⟨y,hy⟩:=lt_ ((i:Int) % ca);rw[hx,hy] at ha;obtain⟨z,hz⟩:=lt_ ((i:Int)+1);rw[hz] at HW ⊢;have wi2:Q4.wrap ((i:Int)+1)=z:=wi.trans hz;clear wi hz hx hy hi hd hm ho
 rotate_left
 have k1b:(ra==1)=false:=by simpa using k1
 have k1d:decide (ra=1)=false:=decide_eq_false k1;have k1n:(ra != 1)=true:=by simpa using k1
 by_cases k2:ca=1
 subst k2;rw[if_neg (by omega)];have ha:=zh (hc.out (.inr rfl));clear hc;rcases S with _|i;dsimp only[vG] at ha
 rotate_left
 dsimp only[vG] at ha;have hi:=hd i rfl;have hp: ¬ (i:Int)<0:=by omega
 have hq:decide ((i:Int)<0)=false:=decide_eq_false hp;have ht:(i:Int)<=50000000000:=by omega
 have wi:Q4.wrap ((i:Int)+1)=(i:Int)+1:=zAS (by omega) (by omega);have HW:=zh (fun W=>whole_any ((i:Int)+1) (by omega) (by omega) W);dsimp only[vG];obtain⟨x,hx⟩:=lt_ ((i:Int) / 1);obtain⟨y,hy⟩:=lt_ ((i:Int) % 1);rw[hx,hy] at ha;obtain⟨z,hz⟩:=lt_ ((i:Int)+1);rw[hz] at HW ⊢;have wi2:Q4.wrap ((i:Int)+1)=z:=wi.trans hz;clear wi hz hx hy hi hd hm ho
 rotate_left
 ·rw[if_pos (by omega)];have k2b:(ca==1)=false:=by simpa using k2
  have k2d:decide (ca=1)=false:=decide_eq_false k2;have k2n:(ca != 1)=true:=by simpa using k2
  go_enter func59,ntmps59;go_wp2
  (refine qmI ?_;(repeat(go_big_quiet_step (first|(go_at_call 62;first|with_reducible exact Calls.zA1 (hh.out _)|with_reducible exact Calls.zA1 (hk.out _))|(go_at_call 63;first|with_reducible exact Calls.zA1 (hg.out _)|with_reducible exact Calls.zA1 (hj.out _)))));refine qmE ?_;intro lq nq)
  all_goals go_wp2_with((go_at_call 22;refine mB (zA6 _ _) ?_;intro l5 q5))
  all_goals(go_returns;exact rb_)
 all_goals
  go_enter func59,ntmps59;go_wp2
  (refine qmI ?_;(repeat(go_big_quiet_step (first|(go_at_call 62;first|with_reducible exact Calls.zA1 (hh.out _)|with_reducible exact Calls.zA1 (hk.out _))|(go_at_call 63;first|with_reducible exact Calls.zA1 (hg.out _)|with_reducible exact Calls.zA1 (hj.out _)))));refine qmE ?_;intro lq nq)
  go_wp2;obtain⟨WQ,hn⟩:∃ WQ,WQ=more ((w.alloc zObj).alloc (.cells #[.bool a1.many,.int .i64 a1.val.tag,.int .i64 a1.val.num,.string a1.val.str,.bool a1.val.is,.int .i64 a1.val.code,.int .i64 a1.top,.int .i64 a1.left,.int .i64 a1.bottom,.int .i64 a1.right,.slice a1.ents a1.n a1.c] 51)) lq nq:=⟨_,rfl⟩
  rw[<- hn];obtain⟨hs,hv,hs1,r0,r1,r2,r3,r4,rf0,rf1,rf2,rf3,rf4,p0,p1,p2,p3,p4,p5,p6,p7,p8,p9,p10⟩:=boxq hn;obtain⟨e1,e2,e3,e4,e5⟩:=zBA fun i u hu=>cell_below (hr.out i u hu) hs;simp only[Q3] at e1 e2 e3 e4 e5;have hbq:=cltK e1;clear hn
  (refine qmI ?_;(repeat(go_big_quiet_step (first|(go_at_call 118;exact Calls.zA1 (ha.out _ bel)))));refine qmE ?_;intro lq nq)
  go_wp2_with(first|(go_at_call 22;refine mB (zA6 _ _) ?_;intro l5 q5)|(go_at_call 56;refine mB (HW.out _) ?_;intro l8 q8))
  exact bodyPost_ret (by simp[results,results59,go_sem,zAG,r0,r1,r2,r3,r4,hv];try rfl) rfl ⟨rfl,bel⟩
theorem r10_lookup (a0 a1 a2:Arg) (es1 es2:List En) (b off c:Nat) (w:World) (hc0:∀ i u,a0.cells[i]? =some u->w.cell? ⟨b,off+0+i,none⟩=some u) (hc1:∀ i u,a1.cells[i]? =some u->w.cell? ⟨b,off+11+i,none⟩=some u) (hE1:zAW w a1 es1) (hs1:zA4 a1) (hn1:a1.n<=1000000000) (hord1:zAm a1.top a1.left a1.bottom a1.right none es1=true) (hc2:∀ i u,a2.cells[i]? =some u->w.cell? ⟨b,off+22+i,none⟩=some u) (hE2:zAW w a2 es2) (hs2:zA4 a2) (hn2:a2.n<=1000000000) (hord2:zAm a2.top a2.left a2.bottom a2.right none es2=true) (hr1:1<=rowsG a1) (hc1':1<=colsG a1) :
  Rt 59 #[.slice (some ⟨b,off,none⟩) 3 c] w (vG (lookupG a1 es1 a2 es2 a0.val)):=by
 obtain⟨c1,c2,c3,c4,c5⟩:=zBA hc0;obtain⟨d0,d1,d2,d3,d4,d5,d6,d7,d8,d9,d10⟩:=zBH hc1;have hA:=zh hc0;obtain⟨f0,f1,f2,f3,f4,f5,f6,f7,f8,f9,f10⟩:=zBH hc2;have hB:=zh hc2;simp only[Q3] at c1 c2 c3 c4 c5 d0 f0;have hb:=cltK c1;have hb1:b<w.heap.size+1:=by omega
 have hb2:b<w.heap.size+1+1:=by omega
 have hf:=zh (rows_any a1 hs1);have hc:=zh (cols_any a1 hs1);have hg:=zh (rows_any a2 hs2);have hd:=zh (cols_any a2 hs2);have he:=zh (fun (hl:rowsG a1=1∨colsG a1=1) W (h:Below w.heap.size w W)=>r10_place a0.val a1 es1 W (hE1.below h) hs1 hn1 hord1 hr1 hc1' hl);have hr:=area_in hs1;have hp:(((rowsG a1*colsG a1).toNat:Nat):Int)=rowsG a1*colsG a1:=Q5 (Int.mul_nonneg (by omega) (by omega));have hF:rowsG a1<=200001:=by unfold rowsG;unfold zA4 at hs1;omega
 have hE:colsG a1<=200001:=by unfold colsG;unfold zA4 at hs1;omega
 have hh:=fun i (h:scanG a1 es1 a0.val=some i)=>scan_lt h;have ho:=zh (fun (x y:Int) (hx:0<=x/\x<=200001) (hy:0<=y/\y<=200001) (W:World) (h:Below w.heap.size w W)=>r10_has a2 es2 x y W (hE2.below h) (by omega) (zAS (by unfold zA4 at hs2;omega) (by unfold zA4 at hs2;omega)) (zAS (by unfold zA4 at hs2;omega) (by unfold zA4 at hs2;omega)));simp only[first_look none es2 hord2] at ho;unfold lookupG alikeG;unfold lineX at he;obtain⟨S,hS⟩:=lt_ (scanG a1 es1 a0.val);rw[hS] at he hh ⊢;obtain⟨ra,hn⟩:=lt_ (rowsG a1);obtain⟨ca,hm⟩:=lt_ (colsG a1);rw[hn] at hf hr1 hF;rw[hm] at hc hc1' hE;rw[hn,hm] at he hh hr hp;rw[hn,hm];obtain⟨rb,hw⟩:=lt_ (rowsG a2);obtain⟨cb,hs⟩:=lt_ (colsG a2);rw[hw] at hg;rw[hs] at hd;rw[hw,hs];clear hw hs hc2 hE2 hs2 hord2;clear hS hn hm hc0 hc1 hE1 hs1 hord1;unfold Arg.agg at *;by_cases k1:ra=1
 subst k1;rw[if_neg (by omega)];by_cases j1:1=rb
 by_cases j2:ca=cb
 subst j1;subst j2;rw[if_neg (by simp)];have ha:=zh (he.out (.inl rfl));clear he;rcases S with _|i;dsimp only[vG] at ha
 rotate_left
 dsimp only[vG] at ha;have hi:=hh i rfl;have ht: ¬ (i:Int)<0:=by omega
 have hv:decide ((i:Int)<0)=false:=decide_eq_false ht;have hC:(i:Int)<=50000000000:=by omega
 have hj:0<=(i:Int) / ca/\(i:Int) / ca<=200001:=⟨Int.ediv_nonneg (by omega) (by omega),by rw[Int.ediv_eq_zero_of_lt (by omega) (by omega)];omega⟩
 have hk:0<=(i:Int) % ca/\(i:Int) % ca<=200001:=⟨Int.emod_nonneg _ (by omega),by have:=Q7 (i:Int) (show 0<ca by omega);omega⟩
 have HH:=zh (ho.out _ _ hj hk);dsimp only[vG];obtain⟨x,hx⟩:=lt_ ((i:Int) / ca);obtain⟨y,hy⟩:=lt_ ((i:Int) % ca);rw[hx,hy] at ha HH ⊢;obtain⟨R,hR⟩:=lt_ (lookG a2 es2 (x,y));rw[hR] at HH ⊢;clear hx hy hR hj hk hi hh hp hr
 rotate_left
 ·rw[if_pos (by simp[j2])];subst j1;have j2b:(ca==cb)=false:=by simpa using j2
  have j2d:decide (ca=cb)=false:=decide_eq_false j2;have j2n:(ca != cb)=true:=by simpa using j2
  go_enter func59,ntmps59;go_wp2
  (refine qmI ?_;(repeat(go_big_quiet_step (first|(go_at_call 62;first|with_reducible exact Calls.zA1 (hf.out _)|with_reducible exact Calls.zA1 (hg.out _))|(go_at_call 63;first|with_reducible exact Calls.zA1 (hc.out _)|with_reducible exact Calls.zA1 (hd.out _)))));refine qmE ?_;intro lq nq)
  all_goals go_wp2_with((go_at_call 22;refine mB (zA6 _ _) ?_;intro l5 q5))
  all_goals(go_returns;exact rb_)
 ·rw[if_pos (by simp[j1])];have j1b:(1==rb)=false:=by simpa using j1
  have j1d:decide (1=rb)=false:=decide_eq_false j1;have j1n:(1 != rb)=true:=by simpa using j1
  go_enter func59,ntmps59;go_wp2
  (refine qmI ?_;(repeat(go_big_quiet_step (first|(go_at_call 62;first|with_reducible exact Calls.zA1 (hf.out _)|with_reducible exact Calls.zA1 (hg.out _))|(go_at_call 63;first|with_reducible exact Calls.zA1 (hc.out _)|with_reducible exact Calls.zA1 (hd.out _)))));refine qmE ?_;intro lq nq)
  all_goals go_wp2_with((go_at_call 22;refine mB (zA6 _ _) ?_;intro l5 q5))
  all_goals(go_returns;exact rb_)
 have k1b:(ra==1)=false:=by simpa using k1
 have k1d:decide (ra=1)=false:=decide_eq_false k1;have k1n:(ra != 1)=true:=by simpa using k1
 by_cases k2:ca=1
 subst k2;rw[if_neg (by omega)];by_cases j1:ra=rb
 by_cases j2:1=cb
 subst j1;subst j2;rw[if_neg (by simp)];have ha:=zh (he.out (.inr rfl));clear he;rcases S with _|i;dsimp only[vG] at ha
 rotate_left
 dsimp only[vG] at ha;have hi:=hh i rfl;have ht: ¬ (i:Int)<0:=by omega
 have hv:decide ((i:Int)<0)=false:=decide_eq_false ht;have hC:(i:Int)<=50000000000:=by omega
 have hj:0<=(i:Int) / 1/\(i:Int) / 1<=200001:=by rw[Int.ediv_one];omega
 have hk:0<=(i:Int) % 1/\(i:Int) % 1<=200001:=⟨Int.emod_nonneg _ (by omega),by have:=Q7 (i:Int) (show 0<1 by omega);omega⟩
 have HH:=zh (ho.out _ _ hj hk);dsimp only[vG];obtain⟨x,hx⟩:=lt_ ((i:Int) / 1);obtain⟨y,hy⟩:=lt_ ((i:Int) % 1);rw[hx,hy] at ha HH ⊢;obtain⟨R,hR⟩:=lt_ (lookG a2 es2 (x,y));rw[hR] at HH ⊢;clear hx hy hR hj hk hi hh hp hr
 rotate_left
 ·rw[if_pos (by simp[j2])];subst j1;have j2b:(1==cb)=false:=by simpa using j2
  have j2d:decide (1=cb)=false:=decide_eq_false j2;have j2n:(1 != cb)=true:=by simpa using j2
  go_enter func59,ntmps59;go_wp2
  (refine qmI ?_;(repeat(go_big_quiet_step (first|(go_at_call 62;first|with_reducible exact Calls.zA1 (hf.out _)|with_reducible exact Calls.zA1 (hg.out _))|(go_at_call 63;first|with_reducible exact Calls.zA1 (hc.out _)|with_reducible exact Calls.zA1 (hd.out _)))));refine qmE ?_;intro lq nq)
  all_goals go_wp2_with((go_at_call 22;refine mB (zA6 _ _) ?_;intro l5 q5))
  all_goals(go_returns;exact rb_)
 ·rw[if_pos (by simp[j1])];have j1b:(ra==rb)=false:=by simpa using j1
  have j1d:decide (ra=rb)=false:=decide_eq_false j1;have j1n:(ra != rb)=true:=by simpa using j1
  go_enter func59,ntmps59;go_wp2
  (refine qmI ?_;(repeat(go_big_quiet_step (first|(go_at_call 62;first|with_reducible exact Calls.zA1 (hf.out _)|with_reducible exact Calls.zA1 (hg.out _))|(go_at_call 63;first|with_reducible exact Calls.zA1 (hc.out _)|with_reducible exact Calls.zA1 (hd.out _)))));refine qmE ?_;intro lq nq)
  all_goals go_wp2_with((go_at_call 22;refine mB (zA6 _ _) ?_;intro l5 q5))
  all_goals(go_returns;exact rb_)
 ·rw[if_pos (by omega)];have k2b:(ca==1)=false:=by simpa using k2
  have k2d:decide (ca=1)=false:=decide_eq_false k2;have k2n:(ca != 1)=true:=by simpa using k2
  go_enter func59,ntmps59;go_wp2
  (refine qmI ?_;(repeat(go_big_quiet_step (first|(go_at_call 62;first|with_reducible exact Calls.zA1 (hf.out _)|with_reducible exact Calls.zA1 (hg.out _))|(go_at_call 63;first|with_reducible exact Calls.zA1 (hc.out _)|with_reducible exact Calls.zA1 (hd.out _)))));refine qmE ?_;intro lq nq)
  all_goals go_wp2_with((go_at_call 22;refine mB (zA6 _ _) ?_;intro l5 q5))
  all_goals(go_returns;exact rb_)
 all_goals
  go_enter func59,ntmps59;go_wp2
  (refine qmI ?_;(repeat(go_big_quiet_step (first|(go_at_call 62;first|with_reducible exact Calls.zA1 (hf.out _)|with_reducible exact Calls.zA1 (hg.out _))|(go_at_call 63;first|with_reducible exact Calls.zA1 (hc.out _)|with_reducible exact Calls.zA1 (hd.out _)))));refine qmE ?_;intro lq nq)
  go_wp2;obtain⟨WQ,hq⟩:∃ WQ,WQ=more ((w.alloc zObj).alloc (.cells #[.bool a1.many,.int .i64 a1.val.tag,.int .i64 a1.val.num,.string a1.val.str,.bool a1.val.is,.int .i64 a1.val.code,.int .i64 a1.top,.int .i64 a1.left,.int .i64 a1.bottom,.int .i64 a1.right,.slice a1.ents a1.n a1.c] 51)) lq nq:=⟨_,rfl⟩
  rw[<- hq];obtain⟨hz,hD,hs1,r0,r1,r2,r3,r4,rf0,rf1,rf2,rf3,rf4,p0,p1,p2,p3,p4,p5,p6,p7,p8,p9,p10⟩:=boxq hq;obtain⟨e1,e2,e3,e4,e5⟩:=zBA fun i u hu=>cell_below (hA.out i u hu) hz;simp only[Q3] at e1 e2 e3 e4 e5;obtain⟨g0,g1,g2,g3,g4,g5,g6,g7,g8,g9,g10⟩:=zBH fun i u hu=>cell_below (hB.out i u hu) hz;have hbq:=cltK e1;clear hq
  (refine qmI ?_;(repeat(go_big_quiet_step (first|(go_at_call 118;exact Calls.zA1 (ha.out _ bel)))));refine qmE ?_;intro lq nq)
  go_wp2_with(first|(go_at_call 22;refine mB (zA6 _ _) ?_;intro l5 q5)|(go_at_call 115;refine mB (HH.out _ bel) ?_;intro l7 q7))
  exact bodyPost_ret (by simp[results,results59,go_sem,zAG,r0,r1,r2,r3,r4,hD];try rfl) rfl ⟨rfl,bel⟩
end Go.Proofs.YtnccknhbplaieaaGreatDoor
