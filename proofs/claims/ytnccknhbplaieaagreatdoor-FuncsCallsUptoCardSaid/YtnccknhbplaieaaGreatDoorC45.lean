/- Parts. -/
import Derived.Test.YtnccknhbplaieaaGreatDoorC42
set_option linter.all false
set_option maxRecDepth 100000
set_option maxHeartbeats 4000000
namespace Go.Proofs.YtnccknhbplaieaaGreatDoor
open Go Go.RowKit Go.Proofs.Tryz
open Go.Lib renaming hid->zh
open _root_.Nat renaming lt_of_lt_of_le->Q3,lt_succ_of_lt->Q4,le_add_right->Q5
theorem sumifL_mem {a0:Arg} {es0:List En} {v:V} {a2:Arg} {es2:List En} {x:V} (h:x∈sumifL a0 es0 v a2 es2):∃ e∈es2,e.v=x:=by
 unfold sumifL at h;obtain⟨e,he,rfl⟩:=List.mem_map.1 h;exact⟨e,(List.mem_filter.1 he).1,rfl⟩
def sumX (l:List V):V:=match l.find? isF with
 | some v=>v
 | none=>fitG (numsOf l).sum
theorem sumif_eq (l:List V):(if (zA9 l).2.tag=4 then (zA9 l).2 else fitG (zA9 l).1.sum)=sumX l:=(among_or l (fun l=>fitG l.sum)).trans (by unfold sumX;cases l.find? isF<;>rfl)
theorem sumX_some {l:List V} {f:V} (h:l.find? isF=some f):sumX l=f:=by unfold sumX;rw[h]
theorem sumX_none {l:List V} (h:l.find? isF=none):sumX l=fitG (numsOf l).sum:=by unfold sumX;rw[h]
theorem own_slJ {w:World} {base e size n:Nat} {v:Value} {xs:List Value} (h:w.ownsRow base e size v n xs):∃ A c,v=.slice A n c:=by
 rcases h.2 with ⟨h1,h2⟩|⟨g,cap,cur,h1,_⟩
 ·exact⟨none,0,by rw[h1,h2]⟩
 ·exact⟨_,cap,h1⟩
theorem numsOf_mem {vs:List V} {x:Int} (h:x∈numsOf vs):∃ v∈vs,v.num=x:=by
 unfold numsOf at h;obtain⟨v,hv,rfl⟩:=List.mem_map.1 h;exact⟨v,(List.mem_filter.1 hv).1,rfl⟩
theorem r10_sumif (a b:Arg) (es es2:List En) (v:V) (w:World) (hE:zAW w a es) (hE2:zAW w b es2) (hs:zA4 a) (hs2:zA4 b) (he2:∀ e∈es2,SmallE e) (hn:a.n<=1000000000) (hn2:b.n<=10000000) (hord:zAm a.top a.left a.bottom a.right none es=true) (h64:∀ e∈es2,Is64 e.v.num) :
  Rt 58 #[a.agg,(vG v),b.agg] w (vG (sumifG a es v b es2)):=by
 have hq:=zh (rows_any a hs);have ho:=zh (cols_any a hs);have hr:=zh (rows_any b hs2);have hp:=zh (cols_any b hs2);have HE:=zh hE;have Hb:=zh hE2;have hh:=hE2.1;have Ha:=zh h64;have hf:=zh (fun (x y:Int) (hx: -200001<=x/\x<=200001) (hy: -200001<=y/\y<=200001) (W:World) (hb:Below w.heap.size w W)=>r10_has a es x y W (hE.below hb) (by omega) (zAS (by unfold zA4 at hs;omega) (by unfold zA4 at hs;omega)) (zAS (by unfold zA4 at hs;omega) (by unfold zA4 at hs;omega)));simp only[first_look none es hord] at hf;have hP:=zh (fun (e:En) (he:e∈es2)=>(⟨by have:=he2 e he;unfold SmallE at this;unfold zA4 at hs2;omega,by have:=he2 e he;unfold SmallE at this;unfold zA4 at hs2;omega⟩:(-200001<=e.row-b.top/\e.row-b.top<=200001)/\(-200001<=e.col-b.left/\e.col-b.left<=200001)));have hO:=zh (fun (e:En)=>show plE b e=(e.row-b.top,e.col-b.left) from rfl);clear hE hE2 hs hs2 he2 hord h64;unfold sumifG alikeG;rw[sumif_eq];obtain⟨ra,hJ⟩:=lt_ (rowsG a);obtain⟨ca,hD⟩:=lt_ (colsG a);obtain⟨rb,hK⟩:=lt_ (rowsG b);obtain⟨cb,hH⟩:=lt_ (colsG b);rw[hJ] at hq;rw[hK] at hr;rw[hD] at ho;rw[hH] at hp;rw[hJ,hD,hK,hH];clear hJ hD hK hH;obtain⟨⟨many,val,top,left,bottom,right,ents,m,cc⟩,ha⟩:∃ z,z=a:=⟨_,rfl⟩
 obtain⟨⟨many2,val2,top2,left2,bottom2,right2,ents2,m2,cc2⟩,hl⟩:∃ z,z=b:=⟨_,rfl⟩
 have hg:a.agg=(⟨many,val,top,left,bottom,right,ents,m,cc⟩:Arg).agg:=by rw[ha]
 have hd:b.agg=(⟨many2,val2,top2,left2,bottom2,right2,ents2,m2,cc2⟩:Arg).agg:=by rw[hl]
 have hC:b.n=m2:=by rw[<- hl]
 have hT:b.ents=ents2:=by rw[<- hl]
 have hW:b.top=top2:=by rw[<- hl]
 have hU:b.left=left2:=by rw[<- hl]
 rw[hg] at hq ho hf;rw[hd] at hr hp;rw[hg,hd];rw[hW,hU] at hP hO;rw[hC] at hn2 hh;have hm:=zh (fun (W:World) (hb:Below w.heap.size w W) (j:Nat) (e:En) (he:es2[j]? =some e)=>ent_at (Hb.out.below hb) he);rw[hT,hC] at hm;have hM:=zh hh;unfold Arg.agg at *;clear hg hd ha hl hC hT hW hU hh hn;by_cases k1:ra=rb
 by_cases k2:ca=cb
 ·subst k1;subst k2;rw[if_neg (by simp)];obtain⟨R,hR⟩:=lt_ (sumX (sumifL a es v b es2));rw[hR];have Hg:=zh hR;clear hR;go_enter func58,ntmps58;go_wp2
  (refine qmI ?_;(repeat(go_big_quiet_step (first|(go_at_call 62;first|with_reducible exact Calls.zA1 (hq.out _)|with_reducible exact Calls.zA1 (hr.out _))|(go_at_call 63;first|with_reducible exact Calls.zA1 (ho.out _)|with_reducible exact Calls.zA1 (hp.out _)))));refine qmE ?_;intro lq nq)
  all_goals go_wp2
  go_loopw [8,7] (fun t lv wr=>∃ (j:Nat) (z:List V),j<=m2/\t=.int .i64 (j:Int)/\RowKit.Hid (z=sumifL a es v b (es2.take j))/\RowKit.Hid (z.length<=j)/\zAA ((((w.alloc (.cells #[.bool many,.int .i64 val.tag,.int .i64 val.num,.string val.str,.bool val.is,.int .i64 val.code,.int .i64 top,.int .i64 left,.int .i64 bottom,.int .i64 right,.slice ents m cc] 51)).alloc (.cells #[.int .i64 v.tag,.int .i64 v.num,.string v.str,.bool v.is,.int .i64 v.code] 29)).alloc (.cells #[.bool many2,.int .i64 val2.tag,.int .i64 val2.num,.string val2.str,.bool val2.is,.int .i64 val2.code,.int .i64 top2,.int .i64 left2,.int .i64 bottom2,.int .i64 right2,.slice ents2 m2 cc2] 51)).alloc zObj) wr 29 5 lv z.length (flat z)) (fun t _ _=>m2-(intOf t).toNat)
  case atStart=>exact⟨0,[],Nat.zero_le _,rfl,zh (by simp[sumifL]),zh (Nat.le_refl _),bel,World.ownsRow_nil _ _ _ _⟩
  case round =>
   obtain⟨j,z,hj,rfl,HZ,hk,hG⟩:=hrel;have HG:=zh hG;have Hj:Below w.heap.size w wr:=(show Below w.heap.size w ((((w.alloc (.cells #[.bool many,.int .i64 val.tag,.int .i64 val.num,.string val.str,.bool val.is,.int .i64 val.code,.int .i64 top,.int .i64 left,.int .i64 bottom,.int .i64 right,.slice ents m cc] 51)).alloc (.cells #[.int .i64 v.tag,.int .i64 v.num,.string v.str,.bool v.is,.int .i64 v.code] 29)).alloc (.cells #[.bool many2,.int .i64 val2.tag,.int .i64 val2.num,.string val2.str,.bool val2.is,.int .i64 val2.code,.int .i64 top2,.int .i64 left2,.int .i64 bottom2,.int .i64 right2,.slice ents2 m2 cc2] 51)).alloc zObj) from bel).trans (hG.1.mono (by simp;omega));have hY:=hG.1.size;simp only[World.alloc,Array.size_push] at hY;obtain⟨l0,q0,hc⟩:=zA0 hG.1;have b0c0:wr.cell? ⟨w.heap.size,0,none⟩=some (.bool many):=by rw[hc];go_simp
   have b0c1:wr.cell? ⟨w.heap.size,1,none⟩=some (.int .i64 val.tag):=by rw[hc];go_simp
   have b0c2:wr.cell? ⟨w.heap.size,2,none⟩=some (.int .i64 val.num):=by rw[hc];go_simp
   have b0c3:wr.cell? ⟨w.heap.size,3,none⟩=some (.string val.str):=by rw[hc];go_simp
   have b0c4:wr.cell? ⟨w.heap.size,4,none⟩=some (.bool val.is):=by rw[hc];go_simp
   have b0c5:wr.cell? ⟨w.heap.size,5,none⟩=some (.int .i64 val.code):=by rw[hc];go_simp
   have b0c6:wr.cell? ⟨w.heap.size,6,none⟩=some (.int .i64 top):=by rw[hc];go_simp
   have b0c7:wr.cell? ⟨w.heap.size,7,none⟩=some (.int .i64 left):=by rw[hc];go_simp
   have b0c8:wr.cell? ⟨w.heap.size,8,none⟩=some (.int .i64 bottom):=by rw[hc];go_simp
   have b0c9:wr.cell? ⟨w.heap.size,9,none⟩=some (.int .i64 right):=by rw[hc];go_simp
   have b0c10:wr.cell? ⟨w.heap.size,10,none⟩=some (.slice ents m cc):=by rw[hc];go_simp
   have b1c0:wr.cell? ⟨w.heap.size+1,0,none⟩=some (.int .i64 v.tag):=by rw[hc];go_simp
   have b1c1:wr.cell? ⟨w.heap.size+1,1,none⟩=some (.int .i64 v.num):=by rw[hc];go_simp
   have b1c2:wr.cell? ⟨w.heap.size+1,2,none⟩=some (.string v.str):=by rw[hc];go_simp
   have b1c3:wr.cell? ⟨w.heap.size+1,3,none⟩=some (.bool v.is):=by rw[hc];go_simp
   have b1c4:wr.cell? ⟨w.heap.size+1,4,none⟩=some (.int .i64 v.code):=by rw[hc];go_simp
   have b2c6:wr.cell? ⟨w.heap.size+1+1,6,none⟩=some (.int .i64 top2):=by rw[hc];go_simp
   have b2c7:wr.cell? ⟨w.heap.size+1+1,7,none⟩=some (.int .i64 left2):=by rw[hc];go_simp
   have b2c10:wr.cell? ⟨w.heap.size+1+1,10,none⟩=some (.slice ents2 m2 cc2):=by rw[hc];go_simp
   have b3c0:wr.cell? ⟨w.heap.size+1+1+1,0,none⟩=some (.int .i64 0):=by rw[hc];go_simp
   have b3c1:wr.cell? ⟨w.heap.size+1+1+1,1,none⟩=some (.int .i64 0):=by rw[hc];go_simp
   have b3c2:wr.cell? ⟨w.heap.size+1+1+1,2,none⟩=some (.string ⟨#[]⟩):=by rw[hc];go_simp
   have b3c3:wr.cell? ⟨w.heap.size+1+1+1,3,none⟩=some (.bool false):=by rw[hc];go_simp
   have b3c4:wr.cell? ⟨w.heap.size+1+1+1,4,none⟩=some (.int .i64 0):=by rw[hc];go_simp
   have q0:w.heap.size<wr.heap.size:=by omega
   have n0:w.heap.size<wr.heap.size+1:=by omega
   have q1:w.heap.size+1<wr.heap.size:=by omega
   have n1:w.heap.size+1<wr.heap.size+1:=by omega
   have q2:w.heap.size+1+1<wr.heap.size:=by omega
   have n2:w.heap.size+1+1<wr.heap.size+1:=by omega
   have q3:w.heap.size+1+1+1<wr.heap.size:=by omega
   have n3:w.heap.size+1+1+1<wr.heap.size+1:=by omega
   have Hm:z.length<=1000000000000:=by have:=hk.out;omega
   by_cases hlt:j<m2
   ·clear hc hG;obtain⟨e,he⟩:∃ e,es2[j]? =some e:=⟨_,List.getElem?_eq_getElem (show j<es2.length by rw[hM.out];exact hlt)⟩
    obtain⟨bk,o,e5,hb,hjn,c0,c1,c2,c3,c4,c5,c6⟩:=hm.out _ Hj j e he;subst e5;have Hk:(j:Int)<(m2:Int):=by omega
    have qe:bk<wr.heap.size:=hb;have ne:bk<wr.heap.size+1:=by omega
    have hI:=hP.out e (List.mem_of_getElem? he);have HH:=zh (fun (ob:Obj)=>hf.out _ _ hI.1 hI.2 (wr.alloc ob) (show Below w.heap.size w (wr.alloc ob) from bel));have ht:=zh (sumifL_snoc (a0:=a) (es0:=es) (v:=v) (a2:=b) he);rw[<- hO.out e] at HH;have t1:wrap64 (e.row-top2)=e.row-top2:=zBN (by omega) (by omega);have t2:wrap64 (e.col-left2)=e.col-left2:=zBN (by clear t1;omega) (by clear t1;omega);have wj:IntKind.i64.wrap ((j:Int)+1)=((j+1:Nat):Int):=(zAS (by clear t1 t2;omega) (by clear t1 t2;omega)).trans (by clear t1 t2;omega);obtain⟨x,hx⟩:=lt_ (e.row-top2);obtain⟨y,hy⟩:=lt_ (e.col-left2);rw[hx,hy] at HH;have t3:=t1.trans hx;have t4:=t2.trans hy;clear t1 t2;have t1:=t3;have t2:=t4;clear t3 t4;obtain⟨u,hu⟩:=lt_ (lookG a es (plE b e));rw[hu] at HH ht;have hA:=zh (fun W=>r2_Same u v W);obtain⟨bs,hV⟩:=lt_ (eqB u v);rw[hV] at hA ht;have hN:=HH;clear HH hu hx hy hI he hV hY;cases bs
    ·have hB:=zh (show z=sumifL a es v b (es2.take (j+1)) by rw[ht.out,HZ.out];simp)
     go_wp2_with(first|(go_at_call 115;refine mB (hN.out _) ?_;intro l7 q7;clear b0c0 b0c1 b0c2 b0c3 b0c4 b0c5 b0c6 b0c7 b0c8 b0c9 b0c10 b2c6 b2c7 t1 t2;have g0:=(show (_:Nat)<wr.heap.size+1+l7.length from Q3 n0 (Q5 _ _));have g1:=(show (_:Nat)<wr.heap.size+1+l7.length from Q3 n1 (Q5 _ _));have g2:=(show (_:Nat)<wr.heap.size+1+l7.length from Q3 n2 (Q5 _ _));have g3:=(show (_:Nat)<wr.heap.size+1+l7.length from Q3 n3 (Q5 _ _));have ge:=(show (_:Nat)<wr.heap.size+1+l7.length from Q3 ne (Q5 _ _));have j0:=Q4 g0;have j1:=Q4 g1;have j2:=Q4 g2;have j3:=Q4 g3;have je:=Q4 ge)|(go_at_call 114;refine mB (hA.out _) ?_;intro l9 q9;clear b1c0 b1c1 b1c2 b1c3 b1c4;have r0:=(show (_:Nat)<wr.heap.size+1+l7.length+1+l9.length from Q3 j0 (Q5 _ _));have r1:=(show (_:Nat)<wr.heap.size+1+l7.length+1+l9.length from Q3 j1 (Q5 _ _));have r2:=(show (_:Nat)<wr.heap.size+1+l7.length+1+l9.length from Q3 j2 (Q5 _ _));have r3:=(show (_:Nat)<wr.heap.size+1+l7.length+1+l9.length from Q3 j3 (Q5 _ _));have re:=(show (_:Nat)<wr.heap.size+1+l7.length+1+l9.length from Q3 je (Q5 _ _));have s0:=Q4 r0;have s1:=Q4 r1;have s2:=Q4 r2;have s3:=Q4 r3;have se:=Q4 re))
     go_roundw;case rel=>exact⟨j+1,z,by omega,rfl,hB,zh (by have:=hk.out;omega),HG.out.1.trans ((show Below wr.heap.size wr _ from bel).mono HG.out.1.size),own_below HG.out.2 bel⟩
     case measure=>simp[intOf];omega
    ·have hB:=zh (show z++[e.v]=sumifL a es v b (es2.take (j+1)) by rw[ht.out,HZ.out];simp)
     go_wp2_with(first|(go_at_call 115;refine mB (hN.out _) ?_;intro l7 q7;clear b0c0 b0c1 b0c2 b0c3 b0c4 b0c5 b0c6 b0c7 b0c8 b0c9 b0c10 b2c6 b2c7 t1 t2;have g0:=(show (_:Nat)<wr.heap.size+1+l7.length from Q3 n0 (Q5 _ _));have g1:=(show (_:Nat)<wr.heap.size+1+l7.length from Q3 n1 (Q5 _ _));have g2:=(show (_:Nat)<wr.heap.size+1+l7.length from Q3 n2 (Q5 _ _));have g3:=(show (_:Nat)<wr.heap.size+1+l7.length from Q3 n3 (Q5 _ _));have ge:=(show (_:Nat)<wr.heap.size+1+l7.length from Q3 ne (Q5 _ _));have j0:=Q4 g0;have j1:=Q4 g1;have j2:=Q4 g2;have j3:=Q4 g3;have je:=Q4 ge)|(go_at_call 114;refine mB (hA.out _) ?_;intro l9 q9;clear b1c0 b1c1 b1c2 b1c3 b1c4;have r0:=(show (_:Nat)<wr.heap.size+1+l7.length+1+l9.length from Q3 j0 (Q5 _ _));have r1:=(show (_:Nat)<wr.heap.size+1+l7.length+1+l9.length from Q3 j1 (Q5 _ _));have r2:=(show (_:Nat)<wr.heap.size+1+l7.length+1+l9.length from Q3 j2 (Q5 _ _));have r3:=(show (_:Nat)<wr.heap.size+1+l7.length+1+l9.length from Q3 j3 (Q5 _ _));have re:=(show (_:Nat)<wr.heap.size+1+l7.length+1+l9.length from Q3 je (Q5 _ _));have s0:=Q4 r0;have s1:=Q4 r1;have s2:=Q4 r2;have s3:=Q4 r3;have se:=Q4 re)|(at_builtin;refine gath_V rfl _ _ rfl e.v rfl HG.out bel rfl (by simp) rfl Hm ?_;intro v4 w4 hS))
     have Hc:=zh hS;clear hS;go_wp2;go_roundw;case rel=>exact⟨j+1,_,by omega,rfl,hB,zh (by have:=hk.out;simp;omega),Hc.out⟩
     case measure=>simp[intOf];omega
   obtain rfl:j=m2:=by omega
   have Hk: ¬ (j:Int)<(j:Int):=by omega
   have b3f0:wr.frozen? ⟨w.heap.size+1+1+1,0,none⟩=false:=by rw[hc];go_simp
   have b3f1:wr.frozen? ⟨w.heap.size+1+1+1,1,none⟩=false:=by rw[hc];go_simp
   have b3f2:wr.frozen? ⟨w.heap.size+1+1+1,2,none⟩=false:=by rw[hc];go_simp
   have b3f3:wr.frozen? ⟨w.heap.size+1+1+1,3,none⟩=false:=by rw[hc];go_simp
   have b3f4:wr.frozen? ⟨w.heap.size+1+1+1,4,none⟩=false:=by rw[hc];go_simp
   have hz:=HZ.out;rw[List.take_of_length_le (Nat.le_of_eq hM.out)] at hz;have hZ:∀ x∈z,Is64 x.num:=fun x hx=>by
    rw[hz] at hx;obtain⟨e,he,rfl⟩:=sumifL_mem hx;exact Ha.out e he
   obtain⟨A1,c1,rfl⟩:=own_slJ hG.2;have hL:=Reads.zAC hG.2;have hQ:=zh (show sumX z=R by rw[hz];exact Hg.out);have HF:=zh (fun W (hb:Below wr.heap.size wr W)=>zBD z A1 z.length c1 W.heap.size W ((hL.below hb).lift hb.size) (by omega));have Hd:=zh (fun W (hb:Below wr.heap.size wr W)=>zBR z A1 z.length c1 W ((hL.below hb).lift hb.size) (by have:=hk.out;omega));have Hh:=zh hZ;have Hi:=zh (show z.length<=20000000 by have:=hk.out;omega);clear hc hz hZ hL hG HG HZ hk;obtain⟨F,hF⟩:=lt_ (z.find? isF);rw[hF] at HF;rcases F with _|f;have He:=zh ((sumX_none hF).symm.trans hQ.out)
   rotate_left
   obtain rfl:f=R:=(sumX_some hF).symm.trans hQ.out;all_goals
    clear hF;go_wp2_with(first|(go_at_call 64;refine mB (HF.out _ bel) ?_;intro l1 q1;have g3:=(show (_:Nat)<wr.heap.size+l1.length from Q3 q3 (Q5 _ _));have g4:=Q4 g3)|(go_at_call 117;refine(Hd.out _ bel).mono ?_;rintro e w2 ⟨v2,Q,rfl,hi,Hl,hX,hb⟩;obtain⟨A2,c2,rfl,-,-⟩:=zA8 hi;have Hf:=zh (Reads.zAC hi);have hw:=zh hX;obtain⟨l2,q2,rfl⟩:=zA0 hb;clear hi Hl hX hb)|(go_at_call 116;refine(r10_sum Q A2 Q.length c2 _ Hf.out (by rw[hw.out.length_eq];exact Nat.le_trans (zBl z) Hi.out) (fun x hx=>by obtain⟨v,hv,rfl⟩:=numsOf_mem (hw.out.subset hx);exact Hh.out v hv)).mono ?_;rw[sum_perm hw.out,He.out];rintro e w5 ⟨rfl,hb⟩;obtain⟨l5,q5,rfl⟩:=zA0 hb;clear hb))
    exact bodyPost_ret (by simp[results,results58,go_sem,zAG,b3c0,b3c1,b3c2,b3c3,b3c4,q3,g3,g4];try rfl) rfl ⟨rfl,bel⟩
 rw[if_pos (by simp[k2])];subst k1;have k2b:(ca==cb)=false:=by simpa using k2
 have k2d:decide (ca=cb)=false:=decide_eq_false k2;have k2n:(ca != cb)=true:=by simpa using k2
 rotate_left
 rw[if_pos (by simp[k1])];have k1b:(ra==rb)=false:=by simpa using k1
 have k1d:decide (ra=rb)=false:=decide_eq_false k1;have k1n:(ra != rb)=true:=by simpa using k1
 all_goals
  go_enter func58,ntmps58;go_wp2
  (refine qmI ?_;(repeat(go_big_quiet_step (first|(go_at_call 62;first|with_reducible exact Calls.zA1 (hq.out _)|with_reducible exact Calls.zA1 (hr.out _))|(go_at_call 63;first|with_reducible exact Calls.zA1 (ho.out _)|with_reducible exact Calls.zA1 (hp.out _)))));refine qmE ?_;intro lq nq)
  all_goals go_wp2_with((go_at_call 22;refine mB (zA6 _ _) ?_;intro l5 q5))
  all_goals(go_returns;exact rb_)
end Go.Proofs.YtnccknhbplaieaaGreatDoor
