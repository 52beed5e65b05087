/- Parts. -/
import Derived.Test.YtnccknhbplaieaaGreatDoorC41
import Derived.Test.YtnccknhbplaieaaGreatDoorC37
set_option linter.all false
set_option maxRecDepth 100000
set_option maxHeartbeats 4000000
namespace Go.Proofs.YtnccknhbplaieaaGreatDoor
open Go Go.RowKit Go.Proofs.Tryz
open Go.Lib renaming hid->zh
open _root_.List renaming eq_nil_of_length_eq_zero->Q3,getElem?_eq_getElem->Q4,length_append->Q5,mem_singleton->Q7
open _root_.Int renaming toNat_natCast->Q8
open Go.World renaming ownsRow_nil->Q9
open _root_.Bool renaming and_eq_true->QA
open Go.IntKind renaming wrap_i64->QB
open _root_.UInt8 renaming ofNat->QC
theorem text_names {s c:ByteArray} {x:Int} (h:zAT s=some (c,x)):(s=⟨#[78,85,77]⟩/\c=⟨#[115]⟩/\x=1)∨(s=⟨#[82,69,86]⟩/\c=⟨#[115]⟩/\x=1)∨(s=⟨#[69,88,65,67,84]⟩/\c=⟨#[115,115]⟩/\x=2)∨(s=⟨#[67,72,65,82]⟩/\c=⟨#[110]⟩/\x=1)∨(s=⟨#[79,82,68]⟩/\c=⟨#[115]⟩/\x=1)∨(s=⟨#[67,79,78,67,65,84]⟩/\c=⟨#[115,115,115,115,115,115,115,115,115,115,115,115,115,115,115,115]⟩/\x=1)∨(s=⟨#[83,85,66,83,84]⟩/\c=⟨#[115,115,115]⟩/\x=3)∨(s=⟨#[70,73,78,68]⟩/\c=⟨#[115,115,110]⟩/\x=2)∨(s=⟨#[82,69,80,84]⟩/\c=⟨#[115,110]⟩/\x=2)∨(s=⟨#[84,82,73,77]⟩/\c=⟨#[115]⟩/\x=1)∨(s=⟨#[76,79,87,69,82]⟩/\c=⟨#[115]⟩/\x=1)∨(s=⟨#[85,80,80,69,82]⟩/\c=⟨#[115]⟩/\x=1)∨(s=⟨#[77,73,68]⟩/\c=⟨#[115,110,110]⟩/\x=3)∨(s=⟨#[82,73,71,72,84]⟩/\c=⟨#[115,110]⟩/\x=1)∨(s=⟨#[76,69,70,84]⟩/\c=⟨#[115,110]⟩/\x=1)∨(s=⟨#[76,69,78]⟩/\c=⟨#[115]⟩/\x=1):=by
 unfold zAT at h;rcases zBQ h with ⟨e,e2⟩|h
 ·cases e2;exact .inl ⟨e.symm,rfl,rfl⟩
 rcases zBQ h with ⟨e,e2⟩|h
 ·cases e2;exact .inr (.inl ⟨e.symm,rfl,rfl⟩)
 rcases zBQ h with ⟨e,e2⟩|h
 ·cases e2;exact .inr (.inr (.inl ⟨e.symm,rfl,rfl⟩))
 rcases zBQ h with ⟨e,e2⟩|h
 ·cases e2;exact .inr (.inr (.inr (.inl ⟨e.symm,rfl,rfl⟩)))
 rcases zBQ h with ⟨e,e2⟩|h
 ·cases e2;exact .inr (.inr (.inr (.inr (.inl ⟨e.symm,rfl,rfl⟩))))
 rcases zBQ h with ⟨e,e2⟩|h
 ·cases e2;exact .inr (.inr (.inr (.inr (.inr (.inl ⟨e.symm,rfl,rfl⟩)))))
 rcases zBQ h with ⟨e,e2⟩|h
 ·cases e2;exact .inr (.inr (.inr (.inr (.inr (.inr (.inl ⟨e.symm,rfl,rfl⟩))))))
 rcases zBQ h with ⟨e,e2⟩|h
 ·cases e2;exact .inr (.inr (.inr (.inr (.inr (.inr (.inr (.inl ⟨e.symm,rfl,rfl⟩)))))))
 rcases zBQ h with ⟨e,e2⟩|h
 ·cases e2;exact .inr (.inr (.inr (.inr (.inr (.inr (.inr (.inr (.inl ⟨e.symm,rfl,rfl⟩))))))))
 rcases zBQ h with ⟨e,e2⟩|h
 ·cases e2;exact .inr (.inr (.inr (.inr (.inr (.inr (.inr (.inr (.inr (.inl ⟨e.symm,rfl,rfl⟩)))))))))
 rcases zBQ h with ⟨e,e2⟩|h
 ·cases e2;exact .inr (.inr (.inr (.inr (.inr (.inr (.inr (.inr (.inr (.inr (.inl ⟨e.symm,rfl,rfl⟩))))))))))
 rcases zBQ h with ⟨e,e2⟩|h
 ·cases e2;exact .inr (.inr (.inr (.inr (.inr (.inr (.inr (.inr (.inr (.inr (.inr (.inl ⟨e.symm,rfl,rfl⟩)))))))))))
 rcases zBQ h with ⟨e,e2⟩|h
 ·cases e2;exact .inr (.inr (.inr (.inr (.inr (.inr (.inr (.inr (.inr (.inr (.inr (.inr (.inl ⟨e.symm,rfl,rfl⟩))))))))))))
 rcases zBQ h with ⟨e,e2⟩|h
 ·cases e2;exact .inr (.inr (.inr (.inr (.inr (.inr (.inr (.inr (.inr (.inr (.inr (.inr (.inr (.inl ⟨e.symm,rfl,rfl⟩)))))))))))))
 rcases zBQ h with ⟨e,e2⟩|h
 ·cases e2;exact .inr (.inr (.inr (.inr (.inr (.inr (.inr (.inr (.inr (.inr (.inr (.inr (.inr (.inr (.inl ⟨e.symm,rfl,rfl⟩))))))))))))))
 rcases zBQ h with ⟨e,e2⟩|h
 ·cases e2;exact .inr (.inr (.inr (.inr (.inr (.inr (.inr (.inr (.inr (.inr (.inr (.inr (.inr (.inr (.inr (⟨e.symm,rfl,rfl⟩)))))))))))))))
 cases h
set_option maxHeartbeats 8000000 in
theorem r9_Call (s:ByteArray) (al:List Arg) (A:Option Addr) (n c:Nat) (tx:Int) (w:World) (hr:Reads w w.heap.size 11 A n (zAY al)) (hm:n<=1000000000000) (h64:∀ a∈al,Is64 a.val.num) (hsz:∀ a∈al,a.val.str.size<=1048576) (ok:Nat->Bool)
  (hok:∀ j a,al[j]? =some a->∀ W,Below w.heap.size w W->Rt 67 #[a.agg] W (.bool (ok j))) :
  Rt 17 #[.string s,.slice A n c,.int .i64 tx] w (vG (zBY s al ok tx)):=by
 have hJ:al.length=n:=by
  have:=hr.1;rw[zAN] at this;omega
 have ht:=zh (fun (W:World) (hB:Below w.heap.size w W)=>ref08_ArgsX al A n c W.heap.size W ((hr.below hB).lift hB.size) hm ok (fun j a ha W2 h2=>hok j a ha W2 (hB.trans (h2.mono hB.size))));have Hi:=zh (fun (W:World) (hB:Below w.heap.size w W)=>r8_Faulty al A n c W.heap.size W ((hr.below hB).lift hB.size) hm);have Hw:(al.map Arg.many).length=n:=by rw[List.length_map,hJ]
 have He:=zh (fun A1 c1 W B h=>ref09_Takes s A1 n c1 (al.map Arg.many) W B h (by omega));have Hu:(al.map Arg.val).length=n:=by rw[List.length_map,hJ]
 rw[takes9 s _ Hw] at He;have hC:= @faulty_vals al;have hN:= @takesT_len s (al.map Arg.many);rw[Hw] at hN;have hQ:zAx s (al.map Arg.many)=true->zAU (al.map Arg.many)=false:=by
  intro h;unfold zAx at h;cases e:zAT s with
  | none=>rw[e] at h;cases h
  | some q=>obtain⟨x,y⟩:=q;rw[e] at h;simp only[QA,Bool.not_eq_true'] at h;exact h.2
 obtain⟨R,hR⟩:=lt_ (zBY s al ok tx);rw[hR];unfold zBY at hR;rw[hJ] at hR ht;have HA:=zh (fun (j:Nat) (a:Arg) (h:al[j]? =some a)=>(show (al.map Arg.val)[j]? =some a.val by rw[List.getElem?_map,h];rfl));have hW:=zh (show ∀ v∈al.map Arg.val,Is64 v.num/\v.str.size<=1048576 from fun v hv=>by
  obtain⟨a,ha,rfl⟩:=List.mem_map.1 hv;exact⟨h64 a ha,hsz a ha⟩)
 obtain⟨vs,HO⟩:=lt_ (al.map Arg.val);rw[HO] at hR Hu HA hW hC;obtain⟨K,hK⟩:=lt_ ((List.range n).all ok);obtain⟨T,hT⟩:=lt_ (zAx s (al.map Arg.many));obtain⟨F,hF⟩:=lt_ (faultyA al);rw[hK] at hR ht;rw[hT] at hR He hN hQ;rw[hF] at Hi hC;have HR:=zh hr;have Hk:=zh hJ;have HD:=zh (fun w=>ref09_Wants s w);clear hr hok h64 hsz Hw HO hK hT hF;by_cases ht1:tx<0
 rw[if_pos (.inl ht1)] at hR;subst hR;clear hC hN hQ
 rotate_left
 have gh:decide (tx<0)=false:=decide_eq_false ht1;by_cases ht2:1024<tx
 rw[if_pos (.inr ht2)] at hR;subst hR;clear hC hN hQ
 rotate_left
 have gi:decide (1024<tx)=false:=decide_eq_false ht2;rw[if_neg (by omega)] at hR;obtain⟨text,rfl⟩:∃ text:Nat,tx=(text:Int):=⟨tx.toNat,by omega⟩
 rw[Q8] at hR;have Ht:text<=1024:=by omega
 cases K;rw[if_neg (by decide)] at hR;subst hR;clear hC hN hQ
 rotate_left
 rw[if_pos rfl] at hR;cases T;rw[if_neg (by decide)] at hR;subst hR;clear hC hN hQ
 rotate_left
 rw[if_pos rfl] at hR;obtain⟨kc,x0,Hd,Ho,hn1,ge,gf⟩:=hN rfl;have hC:=hC (hQ rfl);clear hN hQ;unfold textsVals at hR;rw[<- hC] at hR;rcases F with _|f
 ·have HV:=zh (show textsGo s text kc (vs.drop 0) 0 [] []=R by rw[<- hR];dsimp only[vG];rw[Hd];rfl);have HP:zAb s=(x0,(kc.size:Int),kc):=by unfold zAb;rw[Hd]
  rw[HP] at HD;have HT:=zh Hd;have HQ:=zh Ho;have HW:=zh Hu;have HS:=zh (fun (i:Nat) (b:UInt8) (h:kc.data.toList[i]? =some b)=>(zBa kc) ▸ (bs_index kc.data.toList h));clear hR hC Hd Ho Hu HP;go_enter func17,ntmps17;go_wp2_with(first|(go_at_call 20;refine(ht.out _ bel).mono ?_;rintro e w1 ⟨v1,rfl,hp,hb⟩;obtain⟨A1,c1,rfl,-,-⟩:=zA8 hp;have Hl:=zh (Reads.zAC hp);obtain⟨l1,q1,rfl⟩:=zA0 hb;clear hp hb)|(go_at_call 43;refine(He.out _ _ _ _ Hl.out).mono ?_;rintro e w2 ⟨rfl,h⟩;obtain rfl:=h.symm;clear h)|(go_at_call 36;refine mB (Hi.out _ bel) ?_;intro l3 q3)|(go_at_call 42;refine(HD.out _).mono ?_;rintro e w9 ⟨rfl,h⟩;obtain rfl:=h.symm;clear h))
  go_loopw [16,14,15] (fun t sv nv wr=>∃ (j:Nat) (ss:List ByteArray) (ns:List Int),j<=n/\t=.int .i64 (j:Int)/\RowKit.Hid (textsGo s text kc (vs.drop j) j ss ns=R)/\RowKit.Hid (ss.length=cntK kc j true/\ns.length=cntK kc j false)/\RowKit.Hid ((∀ u∈ss,u.size<=1048576)/\∀ y∈ns,Is64 y)/\TwoRel (w.alloc zObj) wr ss ns sv nv) (fun t _ _ _=>n-(intOf t).toNat)
  case atStart=>exact⟨0,[],[],Nat.zero_le _,rfl,HV,zh ⟨rfl,rfl⟩,zh ⟨fun u hu=>(nomatch hu),fun u hu=>(nomatch hu)⟩,bel,Q9 _ _ _ _,Q9 _ _ _ _⟩
  case round =>
   obtain⟨j,ss,ns,hj,rfl,Hy,hf,hl,hT⟩:=hrel;have HG:=zh hT;clear hT;by_cases hlt:j<n
   ·obtain⟨a,ha⟩:∃ a,al[j]? =some a:=⟨_,Q4 (show j<al.length by rw[Hk.out];exact hlt)⟩
    have Hg:=zh ha;have HB:=zh (HA.out j a ha);have gd:(j:Int)<(n:Int):=by omega
    have wj:IntKind.i64.wrap ((j:Int)+1)=((j+1:Nat):Int):=by rw[QB];omega
    have hL:=hW.out a.val (List.mem_of_getElem? HB.out);obtain⟨kb,Hq⟩:∃ kb,kc.data.toList[j]? =some kb:=⟨_,Q4 (show j<kc.data.toList.length by rw[zAe];omega)⟩
    have gc:=HS.out j kb Hq;have HK:j<kc.size:=by omega
    have HZ:ss.length<=16:=by rw[hf.out.1];have:=cntK_all kc j;omega
    have HX:ns.length<=16:=by rw[hf.out.2];have:cntK kc j false<=j:=(by unfold cntK;exact Nat.le_trans (List.length_filter_le _ _) (List.length_take_le _ _));omega
    have hn:=Hy.out;rw[drop_at HB.out,textsGo] at hn;have Hr:kc.data.toList.getD j 0=kb:=by rw[List.getD,Hq];rfl
    rw[Hr] at hn;have hO:=cntK_succ kc j true HK;have hP:=cntK_succ kc j false HK;rw[Hr] at hO hP;obtain⟨y,hy⟩:=lt_ kb.toNat;rw[hy] at hn gc;obtain⟨val,hS⟩:=lt_ a.val;rw[hS] at hn hL;have Hm:=zh hS;clear ha hS Hq Hr;by_cases h115:y=115
    ·rw[if_pos h115] at hn;have hD:kb=115:=by rw[<- UInt8.toNat_inj,hy,h115];rfl
     subst hD;subst h115;have hA:=zh hn;have hU:=zh (show (ss++[(zAZ val).1]).length=cntK kc (j+1) true/\ns.length=cntK kc (j+1) false by
      rw[Q5,hf.out.1,hf.out.2,hO,hP];exact⟨rfl,rfl⟩)
     have hX:=zh (show (∀ u∈ss++[(zAZ val).1],u.size<=1048576)/\∀ y∈ns,Is64 y from ⟨fun u hu=>by
      rcases List.mem_append.1 hu with h|h
      ·exact hl.out.1 u h
      ·rw[Q7.1 h];exact asTxt_size val hL.1 hL.2,hl.out.2⟩)
     have Hx:=zh (r2_AsText val hL.1);obtain⟨u,hu⟩:=lt_ ((zAZ val).1);obtain⟨ud,HN⟩:=lt_ ((zAZ val).2);rw[hu,HN] at Hx;rw[hu] at hA hU hX;have hs:=(show Below w.heap.size w (w.alloc zObj) from bel).trans (HG.out.bel.mono (by simp));obtain⟨b,o,rfl,hb,HL,c0,c1,c2,c3,c4,c5,c6,c7,c8,c9,c10⟩:=arg_at ((HR.out.below hs).lift hs.size) Hg.out;rw[Hm.out] at c1 c2 c3 c4 c5;clear hn hL hu HN hs hO hP hy c0 c6 c7 c8 c9 c10;go_wp2_with(first|(go_at_call 44;refine mB (Hx.out _) ?_;intro l4 q4)|(at_builtin;refine gath_S2 rfl _ _ rfl u rfl HG.out bel rfl (by simp) rfl (by omega) ?_;intro v3 w3 Ha))
     have Hj:=zh Ha;clear Ha;go_wp2;go_roundw;case rel=>exact⟨j+1,_,_,by omega,rfl,hA,hU,hX,Hj.out⟩
     case measure=>simp[intOf];omega
    rw[if_neg h115] at hn;have hY: ¬ (y:Int)=115:=by omega
    have HE:decide ((y:Int)=115)=false:=decide_eq_false hY;have hD:(kb==115)=false:=by
     cases hh:kb==115 with
     | false=>rfl
     | true=>exact absurd (show y=115 by rw[<- hy,eq_of_beq hh];rfl) h115
    rw[hD] at hO hP;have hM:=asNum_63 val hL.1;have Hh:=zh (r2_AsNumber val hL.1.1);have hU:=zh (fun z:Int=>show ss.length=cntK kc (j+1) true/\(ns++[z]).length=cntK kc (j+1) false by
     rw[Q5,hf.out.1,hf.out.2,hO,hP];exact⟨rfl,rfl⟩)
    rw[whole_in hM] at hn;have hq:=whole_is64 _ hM;rw[whole_in hM] at hq;obtain⟨x,hx⟩:=lt_ ((zA5 val).1);obtain⟨cd,Hp⟩:=lt_ ((zA5 val).2);rw[hx,Hp] at Hh hn;rw[hx] at hM hq;by_cases hcd0:cd=0
    subst hcd0;rw[if_neg (show ¬ ((0:Int)≠0) from fun h=>h rfl)] at hn;by_cases hfr:x.tmod 10000=0
    ·rw[if_pos hfr,if_neg (show ¬ (true=false) by decide)] at hn;rw[if_pos hfr] at hq;have hA:=zh (show textsGo s text kc (vs.drop (j+1)) (j+1) ss (ns++[x.tdiv 10000])=R from hn);have hX:=zh (show (∀ u∈ss,u.size<=1048576)/\∀ y∈ns++[x.tdiv 10000],Is64 y from ⟨hl.out.1,fun u hu=>by
      rcases List.mem_append.1 hu with h|h
      ·exact hl.out.2 u h
      ·rw[Q7.1 h];exact hq⟩)
     have HH:=hU.out (x.tdiv 10000);have Hz:=zh HH;have Hs:Is64 (x.tdiv 10000):=hq;obtain⟨z,hz⟩:=lt_ (x.tdiv 10000);rw[hz] at hA hX Hz Hs;have wz:IntKind.i64.wrap z=z:=by unfold Is64 at Hs;rw[QB];omega
     have hs:=(show Below w.heap.size w (w.alloc zObj) from bel).trans (HG.out.bel.mono (by simp));obtain⟨b,o,rfl,hb,HL,c0,c1,c2,c3,c4,c5,c6,c7,c8,c9,c10⟩:=arg_at ((HR.out.below hs).lift hs.size) Hg.out;rw[Hm.out] at c1 c2 c3 c4 c5;clear hn hL hx Hp hs hO hP hy hq HH hD Hs hU c0 c6 c7 c8 c9 c10;go_wp2_with(first|(go_at_call 37;refine mB (Hh.out _) ?_;intro l4 q4)|(at_builtin;refine gath_N2 rfl _ _ rfl z rfl HG.out bel rfl (by simp) rfl (by omega) ?_;intro v3 w3 Ha))
     have Hj:=zh Ha;clear Ha;go_wp2;go_roundw;case rel=>exact⟨j+1,_,_,by omega,rfl,hA,Hz,hX,Hj.out⟩
     case measure=>simp[intOf];omega
    rw[if_neg hfr,if_pos rfl] at hn;obtain⟨r,gg⟩:=lt_ (x.tmod 10000);rw[gg] at hfr;have hk:=zh (show R=errG 8 from hn.symm)
    rotate_left
    rw[if_pos hcd0] at hn;have hk:=zh (show R=errG cd from hn.symm);have ga:decide (cd=0)=false:=decide_eq_false hcd0;all_goals
     obtain⟨l0,q0,hi⟩:=zA0 HG.out.bel;subst hi;obtain⟨b,o,rfl,hb,HL,c0,c1,c2,c3,c4,c5,c6,c7,c8,c9,c10⟩:=arg_at HR.out Hg.out;rw[Hm.out] at c1 c2 c3 c4 c5;clear hn hL hx Hp hO hP hy hq hD hU c0 c6 c7 c8 c9 c10;go_wp2_with(first|(go_at_call 37;refine mB (Hh.out _) ?_;intro l4 q4)|(go_at_call 22;refine mB (zA6 _ _) ?_;intro l5 q5))
     all_goals(go_returns;exact⟨by rw[hk.out],bel⟩)
   obtain rfl:j=n:=by omega
   have gd: ¬ (j:Int)<(j:Int):=by omega
   have HJ:R=zBF s text ss ns:=by
    rw[<- Hy.out,List.drop_of_length_le (Nat.le_of_eq HW.out)]
    rfl
   have hk:=zh HJ;have Hn:=HQ.out;simp only[between,QA,decide_eq_true_eq] at Hn;have ho:=zh Hn;clear HJ Hn gf;rcases text_names HT.out with ⟨rfl,rfl,rfl⟩|⟨rfl,rfl,rfl⟩|⟨rfl,rfl,rfl⟩|⟨rfl,rfl,rfl⟩|⟨rfl,rfl,rfl⟩|⟨rfl,rfl,rfl⟩|⟨rfl,rfl,rfl⟩|⟨rfl,rfl,rfl⟩|⟨rfl,rfl,rfl⟩|⟨rfl,rfl,rfl⟩|⟨rfl,rfl,rfl⟩|⟨rfl,rfl,rfl⟩|⟨rfl,rfl,rfl⟩|⟨rfl,rfl,rfl⟩|⟨rfl,rfl,rfl⟩|⟨rfl,rfl,rfl⟩
   have he:(⟨#[115]⟩:ByteArray).size=1:=rfl;have hd:=ho.out;rw[he] at hd;have hZ:=hl.out;obtain rfl:j=1:=by omega
   have h1:ss.length=1:=hf.out.1.trans (by decide +kernel);have h2:ns.length=0:=hf.out.2.trans (by decide +kernel);obtain⟨u,rfl⟩:∃ u,ss=[u]:=by
    match ss,h1 with
    | [u],_=>exact⟨u,rfl⟩
   obtain rfl:ns=[]:=Q3 h2;have zu:=hZ.1 u (by simp);have HC:=zh (fun w=>r9_NUM u zu text w);have hc:R=numTX u:=by (rw[hk.out];unfold zBF;repeat(first|rw[if_pos rfl]|rw[if_neg (by decide)]);all_goals rfl)
   rotate_left
   have he:(⟨#[115]⟩:ByteArray).size=1:=rfl;have hd:=ho.out;rw[he] at hd;have hZ:=hl.out;obtain rfl:j=1:=by omega
   have h1:ss.length=1:=hf.out.1.trans (by decide +kernel);have h2:ns.length=0:=hf.out.2.trans (by decide +kernel);obtain⟨u,rfl⟩:∃ u,ss=[u]:=by
    match ss,h1 with
    | [u],_=>exact⟨u,rfl⟩
   obtain rfl:ns=[]:=Q3 h2;have zu:=hZ.1 u (by simp);have HC:=zh (fun w=>r9_REV u zu text w);have hc:R=toldX text (revX u):=by (rw[hk.out];unfold zBF;repeat(first|rw[if_pos rfl]|rw[if_neg (by decide)]);all_goals rfl)
   rotate_left
   ·have he:(⟨#[115,115]⟩:ByteArray).size=2:=rfl;have hd:=ho.out;rw[he] at hd;have hZ:=hl.out;obtain rfl:j=2:=by omega
    have h1:ss.length=2:=hf.out.1.trans (by decide +kernel);have h2:ns.length=0:=hf.out.2.trans (by decide +kernel);obtain⟨u,u2,rfl⟩:∃ u u2,ss=[u,u2]:=by
     match ss,h1 with
     | [u,u2],_=>exact⟨u,u2,rfl⟩
    obtain rfl:ns=[]:=Q3 h2;have zu:=hZ.1 u (by simp);have zu2:=hZ.1 u2 (by simp);have hc:R=exactX u u2:=by (rw[hk.out];unfold zBF;repeat(first|rw[if_pos rfl]|rw[if_neg (by decide)]);all_goals rfl)
    unfold exactX at hc;have HC:=zh (fun w=>r2_Truth (u.toList==u2.toList) w);rw[<- hc] at HC;obtain⟨l0,q0,hi⟩:=zA0 HG.out.bel;subst hi;obtain⟨g,cc,rfl,hg,hw,hH⟩:=zAR HG.out.os (by simp);have hE:w.heap.size+1<=g:=by simpa using hg
    have c0:=hH 0 _ rfl;have c1:=hH 1 _ rfl;clear hH;obtain⟨A9,c9,rfl⟩:=zAB HG.out.on;clear hZ hd he h1 h2 hc;go_wp2_with fail
    go_region_held3 (fun w'=>w'.cell? ⟨g,0,none⟩=some (.string u)/\w'.cell? ⟨g,1,none⟩=some (.string u2)) (first|(go_keep;done)|((try dsimp only[vG]);(repeat' apply And.intro)<;>(first|assumption|exact zBc (by assumption)|exact zBn (by assumption) (by assumption)))) (first|(go_at_call 50;refine mB (HC.out _) ?_;intro l6 q6))
    all_goals go_wp2;all_goals(go_returns;exact rb_)
   ·have he:(⟨#[110]⟩:ByteArray).size=1:=rfl;have hd:=ho.out;rw[he] at hd;have hZ:=hl.out;obtain rfl:j=1:=by omega
    have h1:ss.length=0:=hf.out.1.trans (by decide +kernel);have h2:ns.length=1:=hf.out.2.trans (by decide +kernel);obtain rfl:ss=[]:=Q3 h1;obtain⟨y,rfl⟩:∃ y,ns=[y]:=by
     match ns,h2 with
     | [y],_=>exact⟨y,rfl⟩
    have zy:=hZ.2 y (by simp);have hc:R=charX text y:=by (rw[hk.out];unfold zBF;repeat(first|rw[if_pos rfl]|rw[if_neg (by decide)]);all_goals rfl)
    unfold charX at hc;obtain⟨l0,q0,hi⟩:=zA0 HG.out.bel;subst hi;obtain⟨A8,c8,rfl⟩:=zAB HG.out.os;obtain⟨g2,cc2,rfl,hI,Hf,hH⟩:=zAR HG.out.on (by simp);have hV:w.heap.size+1<=g2:=by simpa using hI
    have d0:=hH 0 _ rfl;clear hH;by_cases hy0:y<0
    rw[if_pos (.inl hy0)] at hc
    rotate_left
    have gj:decide (y<0)=false:=decide_eq_false hy0;by_cases hy1:255<y
    rw[if_pos (.inr hy1)] at hc
    rotate_left
    ·have gk:decide (255<y)=false:=decide_eq_false hy1;rw[if_neg (by omega)] at hc;obtain⟨m,rfl⟩:∃ m:Nat,y=(m:Int):=⟨y.toNat,by omega⟩
     rw[Q8] at hc;have HM:m<256:=by omega
     have w5:=w8_small HM;have gb:=fun (W:World) (b:Nat)=> @conv_one W b m HM;have HC:=zh (fun w=>zBe (bs [QC m]) (text:Int) w);rw[show toldX (text:Int) (bs [QC m])=R from hc.symm] at HC;obtain⟨v,hv⟩:=lt_ (bs [QC m]);rw[hv] at HC gb;clear hZ hd he h1 h2 hc hv;go_wp2_with(go_at_call 45;refine mB (HC.out _) ?_;intro l6 q6)
     all_goals(go_returns;exact rb_)
    all_goals
     have HF:=zh hc;clear hZ hd he h1 h2 hc;go_wp2_with(go_at_call 22;refine mB (zA6 _ _) ?_;intro l5 q5)
     all_goals(go_returns;exact⟨by rw[HF.out],bel⟩)
   have he:(⟨#[115]⟩:ByteArray).size=1:=rfl;have hd:=ho.out;rw[he] at hd;have hZ:=hl.out;obtain rfl:j=1:=by omega
   have h1:ss.length=1:=hf.out.1.trans (by decide +kernel);have h2:ns.length=0:=hf.out.2.trans (by decide +kernel);obtain⟨u,rfl⟩:∃ u,ss=[u]:=by
    match ss,h1 with
    | [u],_=>exact⟨u,rfl⟩
   obtain rfl:ns=[]:=Q3 h2;have zu:=hZ.1 u (by simp);have HC:=zh (fun w=>r9_ORD u text w);have hc:R=ordX u:=by (rw[hk.out];unfold zBF;repeat(first|rw[if_pos rfl]|rw[if_neg (by decide)]);all_goals rfl)
   rotate_left
   ·have he:(⟨#[115,115,115,115,115,115,115,115,115,115,115,115,115,115,115,115]⟩:ByteArray).size=16:=rfl;have hd:=ho.out;rw[he] at hd;have hZ:=hl.out;have HI:R=zBO text ss []:=by (rw[hk.out];unfold zBF;repeat(first|rw[if_pos rfl]|rw[if_neg (by decide)]);all_goals rfl)
    have HC:=zh (fun v w h=>r9_concat ss hZ.1 (by rw[hf.out.1];have:=cntK_all ⟨#[115,115,115,115,115,115,115,115,115,115,115,115,115,115,115,115]⟩ j;omega) text Ht v w h);rw[<- HI] at HC;have HU:=zh (strRow_of HG.out.os);obtain⟨l0,q0,hi⟩:=zA0 HG.out.bel;subst hi;clear hZ hd he;go_wp2_with(go_at_call 49;refine mB (HC.out _ _ (HU.out.below bel)) ?_;intro l6 q6)
    all_goals(go_returns;exact⟨by first|rfl|rw[HI],bel⟩)
   ·have he:(⟨#[115,115,115]⟩:ByteArray).size=3:=rfl;have hd:=ho.out;rw[he] at hd;have hZ:=hl.out;obtain rfl:j=3:=by omega
    have h1:ss.length=3:=hf.out.1.trans (by decide +kernel);have h2:ns.length=0:=hf.out.2.trans (by decide +kernel);obtain⟨u,u2,u3,rfl⟩:∃ u u2 u3,ss=[u,u2,u3]:=by
     match ss,h1 with
     | [u,u2,u3],_=>exact⟨u,u2,u3,rfl⟩
    obtain rfl:ns=[]:=Q3 h2;have zu:=hZ.1 u (by simp);have zu2:=hZ.1 u2 (by simp);have zu3:=hZ.1 u3 (by simp);have hc:R=substX text u u2 u3:=by (rw[hk.out];unfold zBF;repeat(first|rw[if_pos rfl]|rw[if_neg (by decide)]);all_goals rfl)
    have HC:=zh (fun w=>r9_subst u u2 u3 zu zu2 zu3 text Ht w);rw[<- hc] at HC;obtain⟨l0,q0,hi⟩:=zA0 HG.out.bel;subst hi;obtain⟨g,cc,rfl,hg,hw,hH⟩:=zAR HG.out.os (by simp);have hE:w.heap.size+1<=g:=by simpa using hg
    have c0:=hH 0 _ rfl;have c1:=hH 1 _ rfl;have c2:=hH 2 _ rfl;clear hH;obtain⟨A9,c9,rfl⟩:=zAB HG.out.on;clear hZ hd he h1 h2 hc;go_wp2_with fail
    go_region_held3 (fun w'=>w'.cell? ⟨g,0,none⟩=some (.string u)/\w'.cell? ⟨g,1,none⟩=some (.string u2)/\w'.cell? ⟨g,2,none⟩=some (.string u3)) (first|(go_keep;done)|((try dsimp only[vG]);(repeat' apply And.intro)<;>(first|assumption|exact zBc (by assumption)|exact zBn (by assumption) (by assumption)))) (first|(go_at_call 48;refine mB (HC.out _) ?_;intro l6 q6))
    all_goals go_wp2;all_goals(go_returns;exact rb_)
   ·have he:(⟨#[115,115,110]⟩:ByteArray).size=3:=rfl;have hd:=ho.out;rw[he] at hd;have hZ:=hl.out;have Hc:j=2∨j=3:=by omega
    rcases Hc with rfl|rfl
    ·have h1:ss.length=2:=hf.out.1.trans (by decide +kernel);have h2:ns.length=0:=hf.out.2.trans (by decide +kernel);obtain⟨u,u2,rfl⟩:∃ u u2,ss=[u,u2]:=by
      match ss,h1 with
      | [u,u2],_=>exact⟨u,u2,rfl⟩
     obtain rfl:ns=[]:=Q3 h2;have zu:=hZ.1 u (by simp);have zu2:=hZ.1 u2 (by simp);have hc:R=placeX u u2 1:=by (rw[hk.out];unfold zBF;repeat(first|rw[if_pos rfl]|rw[if_neg (by decide)]);all_goals rfl)
     have HC:=zh (fun w=>r9_find u u2 (by omega) (by omega) 1 (by unfold Is64;decide) w);rw[<- hc] at HC;clear hZ hd he h1 h2 hc;go_wp2_with(at_builtin;refine gath_N2 rfl _ _ rfl 1 rfl HG.out bel rfl (by simp) rfl (by simp) ?_;intro v3 w3 hG;obtain⟨g,cc,rfl,hg,-,hH⟩:=zAR hG.os (by simp);obtain⟨g2,cc2,rfl,hw,-,Hb⟩:=zAR hG.on (by simp);have hE:w.heap.size+1<=g:=(by simpa using hg);have hV:w.heap.size+1<=g2:=(by simpa using hw);have c0:=hH 0 _ rfl;have c1:=hH 1 _ rfl;have d0:=Hb 0 _ rfl;obtain⟨l7,q7,Hv⟩:=zA0 hG.bel;subst Hv;clear hH Hb hG hg hw)
     go_wp2_with fail
     go_region_held3 (fun w'=>w'.cell? ⟨g,0,none⟩=some (.string u)/\w'.cell? ⟨g,1,none⟩=some (.string u2)/\w'.cell? ⟨g2,0,none⟩=some (.int .i64 1)) (first|(go_keep;done)|((try dsimp only[vG]);(repeat' apply And.intro)<;>(first|assumption|exact zBc (by assumption)|exact zBn (by assumption) (by assumption)))) (first|(go_at_call 47;refine mB (HC.out _) ?_;intro l6 q6))
     all_goals go_wp2;all_goals(go_returns;exact rb_)
    ·have h1:ss.length=2:=hf.out.1.trans (by decide +kernel);have h2:ns.length=1:=hf.out.2.trans (by decide +kernel);obtain⟨u,u2,rfl⟩:∃ u u2,ss=[u,u2]:=by
      match ss,h1 with
      | [u,u2],_=>exact⟨u,u2,rfl⟩
     obtain⟨y,rfl⟩:∃ y,ns=[y]:=by
      match ns,h2 with
      | [y],_=>exact⟨y,rfl⟩
     have zu:=hZ.1 u (by simp);have zu2:=hZ.1 u2 (by simp);have zy:=hZ.2 y (by simp);have hc:R=placeX u u2 y:=by (rw[hk.out];unfold zBF;repeat(first|rw[if_pos rfl]|rw[if_neg (by decide)]);all_goals rfl)
     have HC:=zh (fun w=>r9_find u u2 (by omega) (by omega) y zy w);rw[<- hc] at HC;clear hZ hd he h1 h2 hc;go_wp2_with(at_builtin;refine gath_N2 rfl _ _ rfl 1 rfl HG.out bel rfl (by simp) rfl (by simp) ?_;intro v3 w3 hG;obtain⟨g,cc,rfl,hg,-,hH⟩:=zAR hG.os (by simp);obtain⟨g2,cc2,rfl,hw,-,Hb⟩:=zAR hG.on (by simp);have hE:w.heap.size+1<=g:=(by simpa using hg);have hV:w.heap.size+1<=g2:=(by simpa using hw);have c0:=hH 0 _ rfl;have c1:=hH 1 _ rfl;have d0:=Hb 0 _ rfl;obtain⟨l7,q7,Hv⟩:=zA0 hG.bel;subst Hv;clear hH Hb hG hg hw)
     go_wp2_with fail
     go_region_held3 (fun w'=>w'.cell? ⟨g,0,none⟩=some (.string u)/\w'.cell? ⟨g,1,none⟩=some (.string u2)/\w'.cell? ⟨g2,0,none⟩=some (.int .i64 y)) (first|(go_keep;done)|((try dsimp only[vG]);(repeat' apply And.intro)<;>(first|assumption|exact zBc (by assumption)|exact zBn (by assumption) (by assumption)))) (first|(go_at_call 47;refine mB (HC.out _) ?_;intro l6 q6))
     all_goals go_wp2;all_goals(go_returns;exact rb_)
   ·have he:(⟨#[115,110]⟩:ByteArray).size=2:=rfl;have hd:=ho.out;rw[he] at hd;have hZ:=hl.out;obtain rfl:j=2:=by omega
    have h1:ss.length=1:=hf.out.1.trans (by decide +kernel);have h2:ns.length=1:=hf.out.2.trans (by decide +kernel);obtain⟨u,rfl⟩:∃ u,ss=[u]:=by
     match ss,h1 with
     | [u],_=>exact⟨u,rfl⟩
    obtain⟨y,rfl⟩:∃ y,ns=[y]:=by
     match ns,h2 with
     | [y],_=>exact⟨y,rfl⟩
    have zu:=hZ.1 u (by simp);have zy:=hZ.2 y (by simp);have hc:R=reptX text u y:=by (rw[hk.out];unfold zBF;repeat(first|rw[if_pos rfl]|rw[if_neg (by decide)]);all_goals rfl)
    obtain⟨l0,q0,hi⟩:=zA0 HG.out.bel;subst hi;obtain⟨g,cc,rfl,hg,hw,hH⟩:=zAR HG.out.os (by simp);have hE:w.heap.size+1<=g:=by simpa using hg
    have c0:=hH 0 _ rfl;clear hH;obtain⟨g2,cc2,rfl,hI,Hf,hH⟩:=zAR HG.out.on (by simp);have hV:w.heap.size+1<=g2:=by simpa using hI
    have d0:=hH 0 _ rfl;clear hH;have HC:=zh (fun w h1 h2=>r9_REPT_1 u zu g2 cc2 y zy text Ht w h1 h2);rw[<- hc] at HC;clear hZ hd he h1 h2 hc;go_wp2_with(first|(go_at_call 46;refine mB (HC.out _ (by first|assumption|exact zBc (by assumption)) (by first|assumption|(simp;omega))) ?_;intro l6 q6))
    all_goals(go_returns;exact rb_)
   have he:(⟨#[115]⟩:ByteArray).size=1:=rfl;have hd:=ho.out;rw[he] at hd;have hZ:=hl.out;obtain rfl:j=1:=by omega
   have h1:ss.length=1:=hf.out.1.trans (by decide +kernel);have h2:ns.length=0:=hf.out.2.trans (by decide +kernel);obtain⟨u,rfl⟩:∃ u,ss=[u]:=by
    match ss,h1 with
    | [u],_=>exact⟨u,rfl⟩
   obtain rfl:ns=[]:=Q3 h2;have zu:=hZ.1 u (by simp);have HC:=zh (fun w=>r9_TRIM u zu text w);have hc:R=toldX text (trimX u):=by (rw[hk.out];unfold zBF;repeat(first|rw[if_pos rfl]|rw[if_neg (by decide)]);all_goals rfl)
   rotate_left
   have he:(⟨#[115]⟩:ByteArray).size=1:=rfl;have hd:=ho.out;rw[he] at hd;have hZ:=hl.out;obtain rfl:j=1:=by omega
   have h1:ss.length=1:=hf.out.1.trans (by decide +kernel);have h2:ns.length=0:=hf.out.2.trans (by decide +kernel);obtain⟨u,rfl⟩:∃ u,ss=[u]:=by
    match ss,h1 with
    | [u],_=>exact⟨u,rfl⟩
   obtain rfl:ns=[]:=Q3 h2;have zu:=hZ.1 u (by simp);have HC:=zh (fun w=>r9_LOWER u zu text w);have hc:R=toldX text (eachX 65 97 u):=by (rw[hk.out];unfold zBF;repeat(first|rw[if_pos rfl]|rw[if_neg (by decide)]);all_goals rfl)
   rotate_left
   have he:(⟨#[115]⟩:ByteArray).size=1:=rfl;have hd:=ho.out;rw[he] at hd;have hZ:=hl.out;obtain rfl:j=1:=by omega
   have h1:ss.length=1:=hf.out.1.trans (by decide +kernel);have h2:ns.length=0:=hf.out.2.trans (by decide +kernel);obtain⟨u,rfl⟩:∃ u,ss=[u]:=by
    match ss,h1 with
    | [u],_=>exact⟨u,rfl⟩
   obtain rfl:ns=[]:=Q3 h2;have zu:=hZ.1 u (by simp);have HC:=zh (fun w=>r9_UPPER u zu text w);have hc:R=toldX text (eachX 97 65 u):=by (rw[hk.out];unfold zBF;repeat(first|rw[if_pos rfl]|rw[if_neg (by decide)]);all_goals rfl)
   rotate_left
   ·have he:(⟨#[115,110,110]⟩:ByteArray).size=3:=rfl;have hd:=ho.out;rw[he] at hd;have hZ:=hl.out;obtain rfl:j=3:=by omega
    have h1:ss.length=1:=hf.out.1.trans (by decide +kernel);have h2:ns.length=2:=hf.out.2.trans (by decide +kernel);obtain⟨u,rfl⟩:∃ u,ss=[u]:=by
     match ss,h1 with
     | [u],_=>exact⟨u,rfl⟩
    obtain⟨y,y2,rfl⟩:∃ y y2,ns=[y,y2]:=by
     match ns,h2 with
     | [y,y2],_=>exact⟨y,y2,rfl⟩
    have zu:=hZ.1 u (by simp);have zy:=hZ.2 y (by simp);have zy2:=hZ.2 y2 (by simp);have hc:R=midX text u y y2:=by (rw[hk.out];unfold zBF;repeat(first|rw[if_pos rfl]|rw[if_neg (by decide)]);all_goals rfl)
    obtain⟨l0,q0,hi⟩:=zA0 HG.out.bel;subst hi;obtain⟨g,cc,rfl,hg,hw,hH⟩:=zAR HG.out.os (by simp);have hE:w.heap.size+1<=g:=by simpa using hg
    have c0:=hH 0 _ rfl;clear hH;obtain⟨g2,cc2,rfl,hI,Hf,hH⟩:=zAR HG.out.on (by simp);have hV:w.heap.size+1<=g2:=by simpa using hI
    have d0:=hH 0 _ rfl;have d1:=hH 1 _ rfl;clear hH;have HC:=zh (fun w h1 h2 h3=>r9_MID_2 u (by omega) g2 cc2 y y2 zy (text:Int) w h1 h2 h3);rw[<- hc] at HC;clear hZ hd he h1 h2 hc;go_wp2_with(first|(go_at_call 46;refine mB (HC.out _ (by first|assumption|exact zBc (by assumption)) (by first|assumption|exact zBc (by assumption)) (by first|assumption|(simp;omega))) ?_;intro l6 q6))
    all_goals(go_returns;exact rb_)
   ·have he:(⟨#[115,110]⟩:ByteArray).size=2:=rfl;have hd:=ho.out;rw[he] at hd;have hZ:=hl.out;have Hc:j=1∨j=2:=by omega
    rcases Hc with rfl|rfl
    ·have h1:ss.length=1:=hf.out.1.trans (by decide +kernel);have h2:ns.length=0:=hf.out.2.trans (by decide +kernel);obtain⟨u,rfl⟩:∃ u,ss=[u]:=by
      match ss,h1 with
      | [u],_=>exact⟨u,rfl⟩
     obtain rfl:ns=[]:=Q3 h2;have zu:=hZ.1 u (by simp);have hc:R=rightX text u 1:=by (rw[hk.out];unfold zBF;repeat(first|rw[if_pos rfl]|rw[if_neg (by decide)]);all_goals rfl)
     obtain⟨l0,q0,hi⟩:=zA0 HG.out.bel;subst hi;obtain⟨g,cc,rfl,hg,hw,hH⟩:=zAR HG.out.os (by simp);have hE:w.heap.size+1<=g:=by simpa using hg
     have c0:=hH 0 _ rfl;clear hH;obtain⟨A9,c9,rfl⟩:=zAB HG.out.on;have HC:=zh (fun w=>r9_RIGHT_0 u (by omega) A9 c9 (text:Int) w);rw[<- hc] at HC;clear hZ hd he h1 h2 hc;go_wp2_with(go_at_call 46;refine mB (HC.out _) ?_;intro l6 q6)
     all_goals(go_returns;exact rb_)
    ·have h1:ss.length=1:=hf.out.1.trans (by decide +kernel);have h2:ns.length=1:=hf.out.2.trans (by decide +kernel);obtain⟨u,rfl⟩:∃ u,ss=[u]:=by
      match ss,h1 with
      | [u],_=>exact⟨u,rfl⟩
     obtain⟨y,rfl⟩:∃ y,ns=[y]:=by
      match ns,h2 with
      | [y],_=>exact⟨y,rfl⟩
     have zu:=hZ.1 u (by simp);have zy:=hZ.2 y (by simp);have hc:R=rightX text u y:=by (rw[hk.out];unfold zBF;repeat(first|rw[if_pos rfl]|rw[if_neg (by decide)]);all_goals rfl)
     obtain⟨l0,q0,hi⟩:=zA0 HG.out.bel;subst hi;obtain⟨g,cc,rfl,hg,hw,hH⟩:=zAR HG.out.os (by simp);have hE:w.heap.size+1<=g:=by simpa using hg
     have c0:=hH 0 _ rfl;clear hH;obtain⟨g2,cc2,rfl,hI,Hf,hH⟩:=zAR HG.out.on (by simp);have hV:w.heap.size+1<=g2:=by simpa using hI
     have d0:=hH 0 _ rfl;clear hH;have HC:=zh (fun w h1 h2=>r9_RIGHT_1 u (by omega) g2 cc2 y (text:Int) w h1 h2);rw[<- hc] at HC;clear hZ hd he h1 h2 hc;go_wp2_with(first|(go_at_call 46;refine mB (HC.out _ (by first|assumption|exact zBc (by assumption)) (by first|assumption|(simp;omega))) ?_;intro l6 q6))
     all_goals(go_returns;exact rb_)
   ·have he:(⟨#[115,110]⟩:ByteArray).size=2:=rfl;have hd:=ho.out;rw[he] at hd;have hZ:=hl.out;have Hc:j=1∨j=2:=by omega
    rcases Hc with rfl|rfl
    ·have h1:ss.length=1:=hf.out.1.trans (by decide +kernel);have h2:ns.length=0:=hf.out.2.trans (by decide +kernel);obtain⟨u,rfl⟩:∃ u,ss=[u]:=by
      match ss,h1 with
      | [u],_=>exact⟨u,rfl⟩
     obtain rfl:ns=[]:=Q3 h2;have zu:=hZ.1 u (by simp);have hc:R=leftX text u 1:=by (rw[hk.out];unfold zBF;repeat(first|rw[if_pos rfl]|rw[if_neg (by decide)]);all_goals rfl)
     obtain⟨l0,q0,hi⟩:=zA0 HG.out.bel;subst hi;obtain⟨g,cc,rfl,hg,hw,hH⟩:=zAR HG.out.os (by simp);have hE:w.heap.size+1<=g:=by simpa using hg
     have c0:=hH 0 _ rfl;clear hH;obtain⟨A9,c9,rfl⟩:=zAB HG.out.on;have HC:=zh (fun w=>r9_LEFT_0 u (by omega) A9 c9 (text:Int) w);rw[<- hc] at HC;clear hZ hd he h1 h2 hc;go_wp2_with(go_at_call 46;refine mB (HC.out _) ?_;intro l6 q6)
     all_goals(go_returns;exact rb_)
    ·have h1:ss.length=1:=hf.out.1.trans (by decide +kernel);have h2:ns.length=1:=hf.out.2.trans (by decide +kernel);obtain⟨u,rfl⟩:∃ u,ss=[u]:=by
      match ss,h1 with
      | [u],_=>exact⟨u,rfl⟩
     obtain⟨y,rfl⟩:∃ y,ns=[y]:=by
      match ns,h2 with
      | [y],_=>exact⟨y,rfl⟩
     have zu:=hZ.1 u (by simp);have zy:=hZ.2 y (by simp);have hc:R=leftX text u y:=by (rw[hk.out];unfold zBF;repeat(first|rw[if_pos rfl]|rw[if_neg (by decide)]);all_goals rfl)
     obtain⟨l0,q0,hi⟩:=zA0 HG.out.bel;subst hi;obtain⟨g,cc,rfl,hg,hw,hH⟩:=zAR HG.out.os (by simp);have hE:w.heap.size+1<=g:=by simpa using hg
     have c0:=hH 0 _ rfl;clear hH;obtain⟨g2,cc2,rfl,hI,Hf,hH⟩:=zAR HG.out.on (by simp);have hV:w.heap.size+1<=g2:=by simpa using hI
     have d0:=hH 0 _ rfl;clear hH;have HC:=zh (fun w h1 h2=>r9_LEFT_1 u (by omega) g2 cc2 y (text:Int) w h1 h2);rw[<- hc] at HC;clear hZ hd he h1 h2 hc;go_wp2_with(first|(go_at_call 46;refine mB (HC.out _ (by first|assumption|exact zBc (by assumption)) (by first|assumption|(simp;omega))) ?_;intro l6 q6))
     all_goals(go_returns;exact rb_)
   have he:(⟨#[115]⟩:ByteArray).size=1:=rfl;have hd:=ho.out;rw[he] at hd;have hZ:=hl.out;obtain rfl:j=1:=by omega
   have h1:ss.length=1:=hf.out.1.trans (by decide +kernel);have h2:ns.length=0:=hf.out.2.trans (by decide +kernel);obtain⟨u,rfl⟩:∃ u,ss=[u]:=by
    match ss,h1 with
    | [u],_=>exact⟨u,rfl⟩
   obtain rfl:ns=[]:=Q3 h2;have zu:=hZ.1 u (by simp);have HC:=zh (fun w=>r9_LEN u text w);have hc:R=wholeT u.size:=by (rw[hk.out];unfold zBF;repeat(first|rw[if_pos rfl]|rw[if_neg (by decide)]);all_goals rfl)
   all_goals
    rw[<- hc] at HC;obtain⟨l0,q0,hi⟩:=zA0 HG.out.bel;subst hi;obtain⟨g,cc,rfl,hg,hw,hH⟩:=zAR HG.out.os (by simp);have hE:w.heap.size+1<=g:=by simpa using hg
    have c0:=hH 0 _ rfl;clear hH;obtain⟨A9,c9,rfl⟩:=zAB HG.out.on;clear hZ hd he h1 h2 hc;go_wp2_with(go_at_call 51;refine mB (HC.out _) ?_;intro l6 q6)
    all_goals(go_returns;exact rb_)
 have HY:R=f:=hR.symm;subst HY;clear hR hC Hd Ho;all_goals
  go_enter func17,ntmps17;go_wp2_with(first|(go_at_call 20;refine(ht.out _ bel).mono ?_;rintro e w1 ⟨v1,rfl,hp,hb⟩;obtain⟨A1,c1,rfl,-,-⟩:=zA8 hp;have Hl:=zh (Reads.zAC hp);obtain⟨l1,q1,rfl⟩:=zA0 hb;clear hp hb)|(go_at_call 22;refine mB (zA6 _ _) ?_;intro l5 q5)|(go_at_call 43;refine(He.out _ _ _ _ Hl.out).mono ?_;rintro e w2 ⟨rfl,h⟩;obtain rfl:=h.symm;clear h)|(go_at_call 36;refine mB (Hi.out _ bel) ?_;intro l3 q3))
  all_goals(go_returns;exact rb_)
end Go.Proofs.YtnccknhbplaieaaGreatDoor
