/- Parts. -/
import Derived.Test.YtnccknhbplaieaaGreatDoorC28
set_option linter.all false
set_option maxRecDepth 100000
set_option maxHeartbeats 4000000
namespace Go.Proofs.YtnccknhbplaieaaGreatDoor
open Go Go.RowKit Go.Proofs.Tryz
open Go.Lib renaming hid->zh
open Go.IntKind renaming wrap_i64->Q3,i64->Q5,u64->QM,wrap_u64->QN,wrap_u8->QQ,u8->Qn
open _root_.List renaming getElem?_eq_getElem->Q4,getElem?_cons_succ->Q7,getElem?_eq_some_iff->Q8,length_cons->Q9,getElem?_drop->QA,length_drop->QB,replicate->QC,length_append->QD,length_take->QF,drop_of_length_le->QG,take_of_length_le->QK,mem_of_getElem?->QO,drop_succ_cons->QS,getD->QU,all_cons->QW,getElem?_append_left->QY,all_eq_true->QZ,getElem?_replicate->Qd,all_append->Qg,append_nil->Qh,length_nil->Qi,drop_zero->Qj,mem_cons->Ql,any_cons->Qo,getElem?_take->Qr,append_assoc->Qv,cons_append->Qw,length->Qy
open _root_.Bool renaming and_eq_false_iff->QE,and_true->QX,and_eq_true->Qa
open _root_.UInt8 renaming toNat_inj->QH,toNat_lt->QJ,toNat_ofNat'->Qq
open _root_.Nat renaming zero_le->QI,le_refl->QL,pow_le_pow_right->QP,le_of_eq->QR,lt_of_lt_of_le->QT,mul_comm->Qb,zero_add->Qc,not_lt_zero->Qe,mul_le_mul_right->Qk,mul_assoc->Qp,lt_or_ge->Qs,one_mul->Qx
open Go.World renaming ownsRow_nil->QV,ownsRow->Qm
open _root_.Int renaming toNat_natCast->Qu
theorem own_string {w:World} {base:Nat} {v:Value} {l:List UInt8} (h:w.ownsRow base 5 1 v l.length (B8 l)):(convert 98 9 v).run prog w=.ok (.string (bs l)) w:=by
 rcases Nat.eq_zero_or_pos l.length with h0|h0
 ·have hl:l=[]:=List.eq_nil_of_length_eq_zero h0;subst hl;rcases h.2 with ⟨rfl,_⟩|⟨g,cap,cur,rfl,hg,hh,h1,h2,_⟩
  ·rw[run_convert_bytes_string w 98 9 5 none 0 0 underlying98 underlying5 underlying9]
   rfl
  ·exact run_convert_bytes_back w _ _ 5 ⟨g,0,none⟩ cap [] underlying98 underlying5 underlying9 (fun j hj=>absurd hj (Qe _))
 ·obtain⟨g,c,rfl,hg,hgl,hc⟩:=zAR h h0;exact run_convert_bytes_back w _ _ 5 ⟨g,0,none⟩ c l underlying98 underlying5 underlying9 (fun j hj=>by
   have e:(⟨g,0,none⟩:Addr).add j=⟨g,j,none⟩:=by unfold Addr.add;split<;>simp_all
   rw[e];exact hc j _ (by simp[B8,Q4 hj]))
theorem info_8:(prog.info? 5).map (fun i=>(i.zero,i.size,i.bytes))=some (some (.int .u8 0),1,1):=by kernel_rfl
theorem b8_snoc (l:List UInt8) (c:UInt8):B8 l++(#[Value.int .u8 ((c.toNat:Nat):Int)]:Array Value).toList=B8 (l++[c]):=by simp[B8]
theorem gath_8 {ops:Array Oper} {rest:List Oper} {o:Oper} {a:Act} {w:World} {Q:Exit->Act->World->Prop} (hgd:o.guard=none) (s x:Operand)
  (ho:o.op=.call { callee:=.builtin .append,args:=#[s,x],argTypes:=#[98,98] })
  {W w0 w1:World} {v vx:Value} {l:List UInt8} (c:UInt8) (hs:a.eval s=v) (hG:zAA W w0 5 1 v l.length (B8 l)) (hb:Below w0.heap.size w0 w1) (hw:w=w1.alloc (.cells #[.int .u8 ((c.toNat:Nat):Int)] 5)) (hvx:vx=.slice (some ⟨w1.heap.size,0,none⟩) 1 1) (hx:a.eval x=vx) (hn:l.length<=1000000000000)
  (h:∀ v' w',zAA W w' 5 1 v' (l++[c]).length (B8 (l++[c]))->wpList prog ops Q rest (a.put o.dst v') w'):wpList prog ops Q (o::rest) a w :=
 gath_one hgd s x 98 5 1 1 (.int .u8 0) ho underlying98 info_8 (by decide) rfl (by decide) #[.int .u8 ((c.toNat:Nat):Int)] rfl (by intro u hu;simp only[Ql,List.not_mem_nil,or_false] at hu;subst hu;rfl) hs hG hb hw hvx hx hn
  (fun v' w' h1=>h v' w' (by rw[<- b8_snoc,QD];exact h1))
theorem bs_index (l:List UInt8) {i:Nat} {c:UInt8} (h:l[i]? =some c) (w:World):(Instr.index 9 (.string (bs l)) (.int .i64 (i:Int))).run prog w=.ok (.int .u8 ((c.toNat:Nat):Int)) w:=by
 have hi:i<l.length:=(Q8.1 h).1;have h1:=idx_string (bs l) (i:Int) (by omega) (by rw[Qu,zAu];exact hi) w;rw[Qu] at h1;rw[h1];show Result.ok (Value.int .u8 (((l.getD i 0).toNat:Nat):Int)) w=_;rw[QU,h]
 rfl
theorem r9_upper (s:ByteArray) (hs:s.size<=1000000000) (w:World):Rt 110 #[.string s,.int .u8 97,.int .u8 224] w (.string (eachX 97 65 s)):=by
 obtain⟨l,rfl⟩:∃ l,s=bs l:=⟨s.data.toList,(zBa s).symm⟩
 rw[zAu] at hs;show Calls _ _ _ _ fun e w'=>e=.returned (.string (bs (l.map (turnB 97 65))))/\_;obtain⟨n,hn⟩:=lt_ l.length;rw[hn] at hs;have hz:(bs l).size=n:=by rw[zAu,hn]
 have HN:=zh hn;have hf:=zh (fun i c (h:l[i]? =some c)=>bs_index l h);have he:=zh (fun w base v (h:Qm w base 5 1 v (l.map (turnB 97 65)).length (B8 (l.map (turnB 97 65))))=>own_string h);obtain⟨R,hR⟩:=lt_ (bs (l.map (turnB 97 65)));rw[hR] at he ⊢;obtain⟨b,hb⟩:=lt_ (bs l);rw[hb] at hz hf ⊢;clear hn hb hR;go_enter func110,ntmps110;go_wp2
 go_loopw [7,8] (fun v x wr=>∃ i:Nat,i<=n/\x=.int .i64 (i:Int)/\zAA w wr 5 1 v ((l.take i).map (turnB 97 65)).length (B8 ((l.take i).map (turnB 97 65)))) (fun _ x _=>n-(intOf x).toNat)
 case atStart=>exact⟨0,QI _,rfl,Below.refl _ _,QV _ _ _ _⟩
 case round =>
  obtain⟨i,hi,rfl,hG⟩:=hrel;have HG:=zh hG;clear hG;by_cases hlt:i<n
  obtain⟨c,hc⟩:∃ c,l[i]? =some c:=⟨_,Q4 (show i<l.length by rw[HN.out];exact hlt)⟩
  have hl:=hf.out i c hc;have ho:(i:Int)<(n:Int):=by omega
  have wi:Q5.wrap ((i:Int)+1)=((i+1:Nat):Int):=by rw[Q3];omega
  have HQ:=zh (show (l.take (i+1)).map (turnB 97 65)=(l.take i).map (turnB 97 65)++[turnB 97 65 c] by rw[zAJ hc,List.map_append];rfl);have ha:=zh (show ((l.take i).map (turnB 97 65)).length<=1000000000000 by rw[List.length_map,QF];omega);have hh:=QJ c;obtain⟨m,hm⟩:=lt_ c.toNat;rw[hm] at hl hh;by_cases hin:97<=m/\m<123
  focus
   obtain⟨h1,h2⟩:=hin;have ht:((turnB 97 65 c).toNat:Int)=(m:Int)+224-256:=by
    unfold turnB;rw[hm,if_pos ⟨h1,h2⟩,Qq];omega
   have hg:(97:Int)<=(m:Int):=by omega
   have hk:(m:Int)<=122:=by omega
   have wu:Qn.wrap ((m:Int)+224)=((turnB 97 65 c).toNat:Int):=by rw[ht,QQ];omega
   obtain⟨q,hq⟩:=lt_ (turnB 97 65 c);rw[hq] at wu HQ;clear ht hc hm hq hh;go_wp2_with(at_builtin;refine gath_8 rfl _ _ rfl q rfl HG.out bel rfl rfl rfl ha.out ?_;intro v3 w3 hd)
  rotate_left
  have ht:turnB 97 65 c=c:=by
   unfold turnB;rw[hm,if_neg hin]
  rw[ht] at HQ;have HM:=zh hm;clear ht hc hm;by_cases h1:97<=m
  focus
   have hg:(97:Int)<=(m:Int):=by omega
   have hk: ¬ (m:Int)<=122:=by omega
   clear hin;go_wp2_with(at_builtin;refine gath_8 rfl _ _ rfl c rfl HG.out bel (by rw[HM.out]) rfl rfl ha.out ?_;intro v3 w3 hd)
  rotate_left
  focus
   have hg: ¬ (97:Int)<=(m:Int):=by omega
   clear hin;go_wp2_with(at_builtin;refine gath_8 rfl _ _ rfl c rfl HG.out bel (by rw[HM.out]) rfl rfl ha.out ?_;intro v3 w3 hd)
  rotate_left
  ·obtain rfl:i=n:=by omega
   have ho: ¬ (i:Int)<(i:Int):=by omega
   have hG:=HG.out;rw[QK (QR HN.out)] at hG;have hcv:=he.out _ _ _ hG.2;have HB:=zh hG.1;clear hG;go_wp2;all_goals go_ret;all_goals exact⟨rfl,HB.out⟩
  all_goals
   rw[<- HQ.out] at hd;have hj:=zh hd;clear hd;go_wp2;go_roundw;case rel=>exact⟨i+1,by omega,rfl,hj.out⟩
   case measure=>simp[intOf];omega
theorem r9_lower (s:ByteArray) (hs:s.size<=1000000000) (w:World):Rt 110 #[.string s,.int .u8 65,.int .u8 32] w (.string (eachX 65 97 s)):=by
 obtain⟨l,rfl⟩:∃ l,s=bs l:=⟨s.data.toList,(zBa s).symm⟩
 rw[zAu] at hs;show Calls _ _ _ _ fun e w'=>e=.returned (.string (bs (l.map (turnB 65 97))))/\_;obtain⟨n,hn⟩:=lt_ l.length;rw[hn] at hs;have hz:(bs l).size=n:=by rw[zAu,hn]
 have HN:=zh hn;have hf:=zh (fun i c (h:l[i]? =some c)=>bs_index l h);have he:=zh (fun w base v (h:Qm w base 5 1 v (l.map (turnB 65 97)).length (B8 (l.map (turnB 65 97))))=>own_string h);obtain⟨R,hR⟩:=lt_ (bs (l.map (turnB 65 97)));rw[hR] at he ⊢;obtain⟨b,hb⟩:=lt_ (bs l);rw[hb] at hz hf ⊢;clear hn hb hR;go_enter func110,ntmps110;go_wp2
 go_loopw [7,8] (fun v x wr=>∃ i:Nat,i<=n/\x=.int .i64 (i:Int)/\zAA w wr 5 1 v ((l.take i).map (turnB 65 97)).length (B8 ((l.take i).map (turnB 65 97)))) (fun _ x _=>n-(intOf x).toNat)
 case atStart=>exact⟨0,QI _,rfl,Below.refl _ _,QV _ _ _ _⟩
 case round =>
  obtain⟨i,hi,rfl,hG⟩:=hrel;have HG:=zh hG;clear hG;by_cases hlt:i<n
  obtain⟨c,hc⟩:∃ c,l[i]? =some c:=⟨_,Q4 (show i<l.length by rw[HN.out];exact hlt)⟩
  have hl:=hf.out i c hc;have ho:(i:Int)<(n:Int):=by omega
  have wi:Q5.wrap ((i:Int)+1)=((i+1:Nat):Int):=by rw[Q3];omega
  have HQ:=zh (show (l.take (i+1)).map (turnB 65 97)=(l.take i).map (turnB 65 97)++[turnB 65 97 c] by rw[zAJ hc,List.map_append];rfl);have ha:=zh (show ((l.take i).map (turnB 65 97)).length<=1000000000000 by rw[List.length_map,QF];omega);have hh:=QJ c;obtain⟨m,hm⟩:=lt_ c.toNat;rw[hm] at hl hh;by_cases hin:65<=m/\m<91
  focus
   obtain⟨h1,h2⟩:=hin;have ht:((turnB 65 97 c).toNat:Int)=(m:Int)+32-0:=by
    unfold turnB;rw[hm,if_pos ⟨h1,h2⟩,Qq];omega
   have hg:(65:Int)<=(m:Int):=by omega
   have hk:(m:Int)<=90:=by omega
   have wu:Qn.wrap ((m:Int)+32)=((turnB 65 97 c).toNat:Int):=by rw[ht,QQ];omega
   obtain⟨q,hq⟩:=lt_ (turnB 65 97 c);rw[hq] at wu HQ;clear ht hc hm hq hh;go_wp2_with(at_builtin;refine gath_8 rfl _ _ rfl q rfl HG.out bel rfl rfl rfl ha.out ?_;intro v3 w3 hd)
  rotate_left
  have ht:turnB 65 97 c=c:=by
   unfold turnB;rw[hm,if_neg hin]
  rw[ht] at HQ;have HM:=zh hm;clear ht hc hm;by_cases h1:65<=m
  focus
   have hg:(65:Int)<=(m:Int):=by omega
   have hk: ¬ (m:Int)<=90:=by omega
   clear hin;go_wp2_with(at_builtin;refine gath_8 rfl _ _ rfl c rfl HG.out bel (by rw[HM.out]) rfl rfl ha.out ?_;intro v3 w3 hd)
  rotate_left
  focus
   have hg: ¬ (65:Int)<=(m:Int):=by omega
   clear hin;go_wp2_with(at_builtin;refine gath_8 rfl _ _ rfl c rfl HG.out bel (by rw[HM.out]) rfl rfl ha.out ?_;intro v3 w3 hd)
  rotate_left
  ·obtain rfl:i=n:=by omega
   have ho: ¬ (i:Int)<(i:Int):=by omega
   have hG:=HG.out;rw[QK (QR HN.out)] at hG;have hcv:=he.out _ _ _ hG.2;have HB:=zh hG.1;clear hG;go_wp2;all_goals go_ret;all_goals exact⟨rfl,HB.out⟩
  all_goals
   rw[<- HQ.out] at hd;have hj:=zh hd;clear hd;go_wp2;go_roundw;case rel=>exact⟨i+1,by omega,rfl,hj.out⟩
   case measure=>simp[intOf];omega
theorem r9_trim (s:ByteArray) (hs:s.size<=1000000000) (w:World):Rt 111 #[.string s] w (.string (trimX s)):=by
 rw[trim_tr];obtain⟨l,rfl⟩:∃ l,s=bs l:=⟨s.data.toList,(zBa s).symm⟩
 rw[zAu] at hs;show Calls _ _ _ _ fun e w'=>e=.returned (.string (bs (tr0 false l)))/\_;obtain⟨n,hn⟩:=lt_ l.length;rw[hn] at hs;have hz:(bs l).size=n:=by rw[zAu,hn]
 have HN:=zh hn;have hI:=zh (fun i c (h:l[i]? =some c)=>bs_index l h);have hU:=zh (fun w base v (h:Qm w base 5 1 v (tr0 false l).length (B8 (tr0 false l)))=>own_string h);obtain⟨R,hR⟩:=lt_ (bs (tr0 false l));rw[hR] at hU ⊢;obtain⟨b,hb⟩:=lt_ (bs l);rw[hb] at hz hI ⊢;clear hn hb hR;go_enter func111,ntmps111;go_wp2
 go_loopw [3,4] (fun v x wr=>∃ (i:Nat) (acc:List UInt8),i<=n/\x=.int .i64 (i:Int)/\acc.length<=i/\RowKit.Hid (acc++tr0 (trIn acc) (l.drop i)=tr0 false l)/\zAA w wr 5 1 v acc.length (B8 acc)) (fun _ x _=>n-(intOf x).toNat)
 case atStart=>exact⟨0,[],QI _,rfl,QL _,zh rfl,Below.refl _ _,QV _ _ _ _⟩
 case round =>
  obtain⟨i,acc,hi,rfl,hV,hf,hG⟩:=hrel;have HG:=zh hG;clear hG;by_cases hlt:i<n
  ·obtain⟨c,hc⟩:∃ c,l[i]? =some c:=⟨_,Q4 (show i<l.length by rw[HN.out];exact hlt)⟩
   have hZ:=hI.out i c hc;have Ha:(i:Int)<(n:Int):=by omega
   have wi:Q5.wrap ((i:Int)+1)=((i+1:Nat):Int):=by rw[Q3];omega
   have hu:=zh (show acc.length<=1000000000000 by omega);have hB:=drop_at hc;have hh:trGo acc c (l.drop (i+1))++tr0 (trIn (trGo acc c (l.drop (i+1)))) (l.drop (i+1))=tr0 false l:=by rw[tr_step,<-hB];exact hf.out
   by_cases h32:c=32
   ·subst h32;have hy:=hh;unfold trGo at hh;by_cases ha:(l.drop i).any (· != 32)=true
    ·have hD:=zh ha;rw[hB] at ha;obtain⟨A,cp,hv,hcp,hw⟩:=zA8 HG.out.2;subst hv;rcases List.eq_nil_or_concat acc with hS|⟨a2,d,Hb⟩
     ·subst hS;rw[if_neg (fun h=>h.elim (fun h=>h rfl) fun h=>h.2.1 rfl)] at hh;have ho:=zh hh;clear hh hy hB hc ha hf hw;go_wp2
      go_loop [5,6] (fun a x=>∃ k:Nat,i<=k/\k<=n/\x=.int .i64 (k:Int)/\a=.bool false/\RowKit.Hid ((l.drop k).any (· != 32)=true)) (fun _ x=>n-(intOf x).toNat)
      case atStart=>exact⟨i,QL _,hi,rfl,rfl,hD⟩
      case round =>
       obtain⟨k,hL,hk,rfl,rfl,ha⟩:=hrel;have hF:k<n:=by
        rcases Qs k n with h|h
        ·exact h
        ·have:=ha.out;rw[QG (by rw[HN.out];exact h)] at this;cases this
       obtain⟨d,hd⟩:∃ d,l[k]? =some d:=⟨_,Q4 (show k<l.length by rw[HN.out];exact hF)⟩
       have ht:=hI.out k d hd;have hM:(k:Int)<(n:Int):=by omega
       have wk:Q5.wrap ((k:Int)+1)=((k+1:Nat):Int):=by rw[Q3];omega
       by_cases hd32:d=32
       ·have hJ:=zh (show (l.drop (k+1)).any (· != 32)=true by
         have:=ha.out;rw[drop_at hd,Qo,hd32] at this
         simpa using this)
        rw[hd32] at ht;clear hd hd32 ha;go_wp2;go_round;case rel=>exact⟨k+1,by omega,by omega,rfl,rfl,hJ⟩
        case measure=>simp[intOf];omega
       ·have hE: ¬ ((d.toNat:Nat):Int)=32:=fun e=>hd32 (by rw[<- QH];show _=32;omega);obtain⟨dm,hA⟩:=lt_ d.toNat;rw[hA] at ht hE;clear hd hd32 ha hA;go_wp2;go_roundw;case rel=>exact⟨i+1,[],by omega,rfl,QI _,ho.out,HG.out⟩
        case measure=>simp[intOf];omega
     ·subst Hb;obtain⟨g,rfl,hg,hq⟩:=hw (by simp);have c0:wr.cell? ⟨g,a2.length,none⟩=some (.int .u8 ((d.toNat:Nat):Int)):=hq _ _ (by simp[B8]);have hC:(a2.concat d).length=a2.length+1:=by simp
      have hl:(a2.concat d).getLastD 32=d:=by simp
      by_cases hd:d=32
      ·rw[if_neg (fun h=>h.elim (fun h=>h rfl) fun h=>h.2.2 (by rw[hl];exact hd))] at hh;have ho:=zh hh;replace c0:wr.cell? ⟨g,a2.length,none⟩=some (.int .u8 32):=by rw[c0,hd];rfl
       obtain⟨acc,hp⟩:=lt_ (a2.concat d);rw[hp] at HG ho hV hC hu ⊢;obtain⟨al,hr⟩:=lt_ acc.length;obtain⟨m,hm⟩:=lt_ a2.length;rw[hm] at c0 hC;rw[hr] at hC;have hT:=zh hr;rw[hr] at HG ⊢;have wl:Q5.wrap ((al:Int)-1)=(m:Int):=by rw[Q3];omega
       have Hc:(0:Int)<(al:Int):=by omega
       have Hd:(m:Int)<(al:Int):=by omega
       have He:m<al:=by omega
       have Hf:0<al:=by omega
       clear hh hy hB hc ha hf hq hl hd hp hr hm hC hw;go_wp2
       go_loop [5,6] (fun a x=>∃ k:Nat,i<=k/\k<=n/\x=.int .i64 (k:Int)/\a=.bool false/\RowKit.Hid ((l.drop k).any (· != 32)=true)) (fun _ x=>n-(intOf x).toNat)
       case atStart=>exact⟨i,QL _,hi,rfl,rfl,hD⟩
       case round =>
        obtain⟨k,hL,hk,rfl,rfl,ha⟩:=hrel;have hF:k<n:=by
         rcases Qs k n with h|h
         ·exact h
         ·have:=ha.out;rw[QG (by rw[HN.out];exact h)] at this;cases this
        obtain⟨d,hd⟩:∃ d,l[k]? =some d:=⟨_,Q4 (show k<l.length by rw[HN.out];exact hF)⟩
        have ht:=hI.out k d hd;have hM:(k:Int)<(n:Int):=by omega
        have wk:Q5.wrap ((k:Int)+1)=((k+1:Nat):Int):=by rw[Q3];omega
        by_cases hd32:d=32
        ·have hJ:=zh (show (l.drop (k+1)).any (· != 32)=true by
          have:=ha.out;rw[drop_at hd,Qo,hd32] at this
          simpa using this)
         rw[hd32] at ht;clear hd hd32 ha;go_wp2;go_round;case rel=>exact⟨k+1,by omega,by omega,rfl,rfl,hJ⟩
         case measure=>simp[intOf];omega
        ·have hE: ¬ ((d.toNat:Nat):Int)=32:=fun e=>hd32 (by rw[<- QH];show _=32;omega);obtain⟨dm,hA⟩:=lt_ d.toNat;rw[hA] at ht hE;clear hd hd32 ha hA;go_wp2;exact⟨⟨i+1,acc,by omega,rfl,by omega,ho.out,by rw[hT.out];exact HG.out⟩,by simp[intOf]<;>omega⟩
      ·rw[if_pos (.inr ⟨ha,by simp,by rw[hl];exact hd⟩)] at hh;have ho:=zh hh;have hE: ¬ ((d.toNat:Nat):Int)=32:=fun e=>hd (by rw[<- QH];show _=32;omega);obtain⟨acc,hp⟩:=lt_ (a2.concat d);rw[hp] at HG ho hV hC hu ⊢;obtain⟨al,hr⟩:=lt_ acc.length;obtain⟨m,hm⟩:=lt_ a2.length;obtain⟨dq,hQ⟩:=lt_ d.toNat;rw[hm,hQ] at c0;rw[hQ] at hE;rw[hm] at hC;rw[hr] at hC;have hT:=zh hr;rw[hr] at HG ⊢;have hX:=zh (show zAA w wr 5 1 (.slice (some ⟨g,0,none⟩) al cp) acc.length (B8 acc) by rw[hr];exact HG.out);have wl:Q5.wrap ((al:Int)-1)=(m:Int):=by rw[Q3];omega
       have Hc:(0:Int)<(al:Int):=by omega
       have Hd:(m:Int)<(al:Int):=by omega
       have He:m<al:=by omega
       have Hf:0<al:=by omega
       clear hh hy hB hc ha hf hq hl hd hp hr hm hC hw hQ;go_wp2
       go_loop [5,6] (fun a x=>∃ k:Nat,i<=k/\k<=n/\x=.int .i64 (k:Int)/\a=.bool false/\RowKit.Hid ((l.drop k).any (· != 32)=true)) (fun _ x=>n-(intOf x).toNat)
       case atStart=>exact⟨i,QL _,hi,rfl,rfl,hD⟩
       case round =>
        obtain⟨k,hL,hk,rfl,rfl,ha⟩:=hrel;have hF:k<n:=by
         rcases Qs k n with h|h
         ·exact h
         ·have:=ha.out;rw[QG (by rw[HN.out];exact h)] at this;cases this
        obtain⟨d,hd⟩:∃ d,l[k]? =some d:=⟨_,Q4 (show k<l.length by rw[HN.out];exact hF)⟩
        have ht:=hI.out k d hd;have hM:(k:Int)<(n:Int):=by omega
        have wk:Q5.wrap ((k:Int)+1)=((k+1:Nat):Int):=by rw[Q3];omega
        by_cases hd32:d=32
        ·have hJ:=zh (show (l.drop (k+1)).any (· != 32)=true by
          have:=ha.out;rw[drop_at hd,Qo,hd32] at this
          simpa using this)
         rw[hd32] at ht;clear hd hd32 ha;go_wp2;go_round;case rel=>exact⟨k+1,by omega,by omega,rfl,rfl,hJ⟩
         case measure=>simp[intOf];omega
        ·have hE: ¬ ((d.toNat:Nat):Int)=32:=fun e=>hd32 (by rw[<- QH];show _=32;omega);obtain⟨dm,hA⟩:=lt_ d.toNat;rw[hA] at ht hE;clear hd hd32 ha hA;go_wp2_with(at_builtin;refine gath_8 rfl _ _ rfl 32 rfl hX.out bel rfl rfl rfl hu.out ?_;intro v3 w3 hK)
         have hO:=zh hK;clear hK;go_wp2;go_roundw;case rel=>exact⟨i+1,acc++[32],by omega,rfl,by rw[QD];show acc.length+1<=_;omega,ho.out,hO.out⟩
         case measure=>simp[intOf];omega
    ·have hH:=hh;rw[<- hB,if_neg (fun h=>h.elim (fun h=>h rfl) fun h=>ha h.1)] at hH;have ho:=zh hH;have hN:=zh (show ∀ j d,i<=j->l[j]? =some d->d=32 from fun j d hj hd=>by
      rw[List.any_eq_true] at ha;have hx:d∈l.drop i:=QO (show (l.drop i)[j-i]? =some d by rw[QA,show i+(j-i)=j by omega];exact hd);cases he:(d != 32) with
      | true=>exact absurd ⟨d,hx,he⟩ ha
      | false=>simpa using he)
     clear hh hH hy hB hc ha hf;go_wp2
     go_loop [5,6] (fun a x=>∃ k:Nat,i<=k/\k<=n/\x=.int .i64 (k:Int)/\a=.bool false) (fun _ x=>n-(intOf x).toNat)
     case atStart=>exact⟨i,QL _,hi,rfl,rfl⟩
     case round =>
      obtain⟨k,hL,hk,rfl,rfl⟩:=hrel;by_cases hF:k<n
      ·obtain⟨d,hd⟩:∃ d,l[k]? =some d:=⟨_,Q4 (show k<l.length by rw[HN.out];exact hF)⟩
       have ht:=hI.out k d hd;rw[hN.out k d hL hd] at ht;have hM:(k:Int)<(n:Int):=by omega
       have wk:Q5.wrap ((k:Int)+1)=((k+1:Nat):Int):=by rw[Q3];omega
       clear hd;go_wp2;go_round;case rel=>exact⟨k+1,by omega,by omega,rfl,rfl⟩
       case measure=>simp[intOf];omega
      ·obtain rfl:k=n:=by omega
       have hM: ¬ (k:Int)<(k:Int):=by omega
       go_wp2;go_roundw;case rel=>exact⟨i+1,acc,by omega,rfl,by omega,ho.out,HG.out⟩
       case measure=>simp[intOf];omega
   ·unfold trGo at hh;rw[if_pos (.inl h32)] at hh;have ho:=zh hh;have hY: ¬ ((c.toNat:Nat):Int)=32:=fun e=>h32 (by rw[<- QH];show _=32;omega);clear hh hB hc hf h32;go_wp2
    go_loop [5,6] (fun a x=>x=.int .i64 (i:Int)/\a=.bool false) (fun _ _=>0)
    case atStart=>exact⟨rfl,rfl⟩
    case round =>
     obtain⟨rfl,rfl⟩:=hrel;obtain⟨cm,hP⟩:=lt_ c.toNat;rw[hP] at hZ hY;have hW:=zh hP;clear hP;go_wp2_with(at_builtin;refine gath_8 rfl _ _ rfl c rfl HG.out bel (by rw[hW.out]) rfl rfl hu.out ?_;intro v3 w3 hK)
     have hO:=zh hK;clear hK;go_wp2;go_roundw;case rel=>exact⟨i+1,acc++[c],by omega,rfl,by rw[QD];show acc.length+1<=_;omega,ho.out,hO.out⟩
     case measure=>simp[intOf];omega
  ·obtain rfl:i=n:=by omega
   have Ha: ¬ (i:Int)<(i:Int):=by omega
   have hG:=HG.out;have hv:=hf.out;rw[QG (QR HN.out)] at hv;rw[show acc=tr0 false l by rw[<- hv];cases trIn acc<;>simp[tr0]] at hG;have hcv:=hU.out _ _ _ hG.2;have HB:=zh hG.1;clear hG hv hf;go_wp2;all_goals go_ret;all_goals exact⟨rfl,HB.out⟩
def dg (c:UInt8):Bool:=decide (48<=c.toNat)&&decide (c.toNat<=57)
theorem dg_of {x:UInt8} (h:dg x=true):48<=x.toNat/\x.toNat<=57:=by
 unfold dg at h
 simpa using h
theorem dg_in {x:UInt8} :digitL.contains x=dg x:=by
 rw[Bool.eq_iff_iff];constructor
 ·intro h;have:=digit_of h;unfold dg
  simpa using this
 ·intro h;obtain⟨h1,h2⟩:=dg_of h;obtain⟨n,hn⟩:=lt_ x.toNat;have hx:x=UInt8.ofNat n:=by rw[<- hn];simp
  rw[hx];have:n=48∨n=49∨n=50∨n=51∨n=52∨n=53∨n=54∨n=55∨n=56∨n=57:=by omega
  rcases this with rfl|rfl|rfl|rfl|rfl|rfl|rfl|rfl|rfl|rfl<;>rfl
theorem dropWhile_none {p:UInt8->Bool} :∀ {l:List UInt8},(∀ x∈l,p x=true)->l.dropWhile p=[]
 | [],_=>rfl
 | a::t,h=>by
   rw[List.dropWhile_cons_of_pos (h a List.mem_cons_self)];exact dropWhile_none fun x hx=>h x (List.mem_cons_of_mem _ hx)
theorem trimS_iff {l:List UInt8} :Lib.trimS l digitL=[] ↔ l.all dg=true:=by
 rw[QZ];constructor
 ·intro h x hx;rw[<- dg_in];exact trimS_nil h x hx
 ·intro h;unfold Lib.trimS Lib.trimLeftS Lib.trimRightS;rw[dropWhile_none (l:=l.reverse) (fun x hx=>by rw[dg_in];exact h x (List.mem_reverse.1 hx))]
  rfl
theorem digitsX_iff (l:List UInt8) (m:Nat):digitsX ⟨l.toArray⟩ m=(decide (0<l.length)&&decide (l.length<=m)&&l.all dg):=by
 unfold digitsX;rw[show (⟨l.toArray⟩:ByteArray).size=l.length from size_mk l]
 congr 1
 rw[Bool.eq_iff_iff,decide_eq_true_iff];exact trimS_iff
def dgs:List UInt8->Nat
 | []=>0
 | c::l=>if dg c then dgs l+1 else 0
theorem dgs_le:∀ l,dgs l<=l.length
 | []=>QL _
 | c::l=>by
   have:=dgs_le l;unfold dgs;split<;>simp<;>omega
theorem dgs_all:∀ {l:List UInt8},l.all dg=true->∀ r,dgs (l++r)=l.length+dgs r
 | [],_,r=>by simp
 | c::l,h,r=>by
   rw[QW,Qa] at h;rw[Qw,dgs,if_pos h.1,dgs_all h.2,Q9];omega
theorem dgs_not:∀ {l:List UInt8},¬ l.all dg=true->∀ r,dgs (l++r)<l.length/\(l++r)[dgs (l++r)]? =l[dgs (l++r)]?
 | [],h,_=>absurd rfl h
 | c::l,h,r=>by
   rw[Qw,dgs];by_cases hc:dg c=true
   ·rw[if_pos hc];have h2: ¬ l.all dg=true:=fun e=>h (by rw[QW,hc,e];rfl);have ih:=dgs_not h2 r;refine⟨by rw[Q9];omega,?_⟩;rw[Q7,Q7];exact ih.2
   ·rw[if_neg hc];exact⟨by simp,rfl⟩
def numL (acc:Nat) (l:List UInt8):Nat:=l.foldl (fun n c=>10*n+(c.toNat-48)) acc
theorem parse_val:∀ (l:List UInt8) (acc:Nat),l.all dg=true->(acc+1)*10 ^ l.length<=10 ^ 19->Lib.parseUintM (2 ^ 64-1) acc l=.ok (numL acc l)
 | [],acc,_,_=>rfl
 | c::r,acc,hd,hb=>by
   rw[QW,Qa] at hd;have hc:=dg_of hd.1;rw[Q9,Nat.pow_succ] at hb;have h1:1<=10 ^ r.length:=Nat.pow_pos (by decide);have h2:(acc+1)*10<=10 ^ 19:=by
    refine Nat.le_trans ?_ hb;rw[Qb (10 ^ r.length) 10,<-Qp];exact Nat.le_mul_of_pos_right _ h1
   have h3:(acc*10+(c.toNat-48)+1)*10 ^ r.length<=(acc+1)*(10 ^ r.length*10):=by
    rw[Qb (10 ^ r.length) 10,<-Qp];exact Qk _ (by omega)
   have ih:=parse_val r (acc*10+(c.toNat-48)) hd.2 (Nat.le_trans h3 hb);rw[Lib.parseUintM,if_pos hc,if_neg (by omega),if_neg (by omega),ih];unfold numL;rw[List.foldl_cons,Qb acc 10]
theorem numL_lt:∀ (l:List UInt8) (acc:Nat),l.all dg=true->numL acc l<(acc+1)*10 ^ l.length
 | [],acc,_=>by simp[numL]
 | c::r,acc,hd=>by
   rw[QW,Qa] at hd;have hc:=dg_of hd.1;have ih:=numL_lt r (10*acc+(c.toNat-48)) hd.2;have h3:(10*acc+(c.toNat-48)+1)*10 ^ r.length<=(acc+1)*(10 ^ r.length*10):=by
    rw[Qb (10 ^ r.length) 10,<-Qp];exact Qk _ (by omega)
   rw[Q9,Nat.pow_succ];exact QT ih h3
def finP (low:Bool) (n:Nat):Int×Bool:=if 9223372036854775807<n∨(low=true/\n=0) then (0,false) else ((signX n low).1,true)
theorem readN_fin (low:Bool) (n:Nat):readN low n=finP low n:=by
 unfold readN finP;by_cases h0:low=true/\n=0
 ·rw[if_pos (by simpa using h0),if_pos (.inr h0)]
 ·rw[if_neg (by simpa using h0)];by_cases h1:9223372036854775807<n
  ·rw[if_pos (.inl h1)];unfold signX;rw[if_pos h1]
   rfl
  ·rw[if_neg (fun h=>h.elim h1 h0)];unfold signX;rw[if_neg h1]
   rfl
def tailP (low:Bool) (a q:List UInt8):Int×Bool :=
 if q=[] then finP low (numL 0 (a++QC 4 48))
 else if ¬ (q.getD 0 0).toNat=46∨dgs (q.drop 1)<1∨4<dgs (q.drop 1)∨dgs (q.drop 1)+1<q.length then (0,false)
 else finP low (numL 0 (a++(q.drop 1)++QC (4-dgs (q.drop 1)) 48))
def refP (low:Bool) (p:List UInt8):Int×Bool :=
 if dgs p<1∨15<dgs p∨((p.getD 0 0).toNat=48/\1<dgs p) then (0,false)
 else tailP low (p.take (dgs p)) (p.drop (dgs p))
theorem index_one:∀ l:List UInt8,(Lib.index l [46]= -1/\∀ x∈l,¬ x.toNat=46)∨∃ i:Nat,Lib.index l [46]=i/\l[i]? =some 46/\∀ x∈l.take i,¬ x.toNat=46
 | []=>.inl ⟨rfl,fun x hx=>by cases hx⟩
 | c::l=>by
   by_cases hc:c=46
   ·subst hc;exact .inr ⟨0,rfl,rfl,fun x hx=>by cases hx⟩
   ·have hn: ¬ c.toNat=46:=fun e=>hc (by rw[<- QH,e];rfl);have hp:([46]:List UInt8).isPrefixOf (c::l)=false:=by
     simp only[List.isPrefixOf,QX,beq_eq_false_iff_ne,ne_eq];exact fun e=>hc e.symm
    rcases index_one l with ⟨h1,h2⟩|⟨i,h1,h2,h3⟩
    ·refine .inl ⟨?_,fun x hx=> ?_⟩
     ·rw[Lib.index,hp,h1];rfl
     ·rcases Ql.1 hx with rfl|hx
      ·exact hn
      ·exact h2 x hx
    ·refine .inr ⟨i+1,?_,by rw[Q7];exact h2,fun x hx=> ?_⟩
     ·rw[Lib.index,hp,h1,if_neg (by decide),if_neg (by simp)];rfl
     ·rw[List.take_succ_cons] at hx;rcases Ql.1 hx with rfl|hx
      ·exact hn
      ·exact h3 x hx
theorem parse_four {a:List UInt8} {b:List UInt8} (ha:a.all dg=true) (h1:0<a.length) (h15:a.length<=15) (hb:b.all dg=true) (hb4:b.length<=4) (low:Bool) :
  (match Lib.parseUintB 64 (spelt a b).data.toList with| .ok u=>readN low u|_=>(0,false))=finP low (numL 0 (a++b++QC (4-b.length) 48)):=by
 rw[spelt_list a b hb4];have hd:(a++b++QC (4-b.length) 48).all dg=true:=by
  rw[Qg,Qg,ha,hb,Bool.true_and,Bool.true_and,QZ];intro x hx;rw[List.eq_of_mem_replicate hx]
  rfl
 have hc:(a++b++QC (4-b.length) 48).length=a.length+4:=by simp;omega
 have he: ¬ (a++b++QC (4-b.length) 48)=[]:=fun e=>by rw[e] at hc;simp at hc
 have:=parse_val _ 0 hd (by rw[hc,Qc,Qx];exact QP (by decide) (by omega));unfold Lib.parseUintB;rw[if_neg he,this];exact readN_fin _ _
theorem parse_ref (low:Bool) (p:List UInt8):parseL low (Lib.cut p [46]).1 (Lib.cut p [46]).2.1 (Lib.cut p [46]).2.2=refP low p:=by
 rcases index_one p with ⟨h1,h2⟩|⟨i,h1,h2,h3⟩
 have hc:Lib.cut p [46]=(p,[],false):=by unfold Lib.cut;rw[h1,if_neg (by decide)]
 rw[hc];unfold parseL refP;dsimp only;rw[digitsX_iff];by_cases hall:p.all dg=true
 have hk:dgs p=p.length:=by have:=dgs_all hall [];simpa [dgs] using this
 rw[hk,hall,QX];by_cases hl:0<p.length/\p.length<=15
 ·rw[decide_eq_true hl.1,decide_eq_true hl.2,if_neg (by decide)];by_cases hz:(p.getD 0 0).toNat=48/\1<p.length
  ·rw[if_pos ⟨hz.2,hz.1⟩,if_pos (.inr (.inr hz))]
  ·rw[if_neg (fun h=>hz ⟨h.2,h.1⟩),if_neg (show ¬ (false=true/\digitsX ⟨([]:List UInt8).toArray⟩ 4=false) from fun h=>by cases h.1),if_neg (show ¬ (p.length<1∨15<p.length∨((p.getD 0 0).toNat=48/\1<p.length)) from fun h=>h.elim (by omega) fun h=>h.elim (by omega) hz)];refine(parse_four (b:=[]) hall hl.1 hl.2 rfl (by simp) low).trans ?_;rw[List.take_length,List.drop_length];unfold tailP;rw[if_pos rfl];simp
 rotate_left
 ·have hx:=dgs_not hall [];rw[Qh] at hx;rw[if_pos (by rw[QE];exact .inr (by simpa using hall))];split
  ·rfl
  ·unfold tailP;have he: ¬ p.drop (dgs p)=[]:=fun e=>by
    have:=congrArg Qy e;rw[QB,Qi] at this;omega
   have hq: ¬ ((p.drop (dgs p)).getD 0 0).toNat=46:=by
    obtain⟨x,hd⟩:∃ x,p[dgs p]? =some x:=⟨_,Q4 hx.1⟩
    rw[QU,QA,Nat.add_zero,hd];exact h2 x (QO hd)
   rw[if_neg he,if_pos (.inl hq)]
 have hi:i<p.length:=(Q8.1 h2).1;have hc:Lib.cut p [46]=(p.take i,p.drop (i+1),true):=by
  unfold Lib.cut;rw[h1,if_pos (by omega)]
  rfl
 have hp:p=p.take i++46::p.drop (i+1):=by
  conv=>lhs;rw[<- List.take_append_drop i p]
  congr 1
  rw[List.drop_eq_getElem_cons hi]
  congr 1
  exact(Q8.1 h2).2
 have hf:(p.take i).length=i:=by rw[QF];omega
 rw[hc];unfold parseL refP;dsimp only;obtain⟨a,ha⟩:=lt_ (p.take i);obtain⟨b,hb⟩:=lt_ (p.drop (i+1));rw[ha] at hf h3;rw[ha,hb] at hp;rw[ha,hb];clear ha hb hc h1 h2 hi;subst hp;rw[digitsX_iff,digitsX_iff];by_cases hall:a.all dg=true
 have hk:dgs (a++46::b)=a.length:=by rw[dgs_all hall];rfl
 rw[hk,hall,QX,List.take_left,List.drop_left];by_cases hl:0<a.length/\a.length<=15
 ·have hg:(a++46::b).getD 0 0=a.getD 0 0:=by
   rw[QU,QU,QY hl.1]
  rw[decide_eq_true hl.1,decide_eq_true hl.2,if_neg (show ¬ (true&&true)=false by decide),hg];by_cases hz:(a.getD 0 0).toNat=48/\1<a.length
  ·rw[if_pos ⟨hz.2,hz.1⟩,if_pos (.inr (.inr hz))]
  ·rw[if_neg (fun h=>hz ⟨h.2,h.1⟩),if_neg (show ¬ (a.length<1∨15<a.length∨((a.getD 0 0).toNat=48/\1<a.length)) from fun h=>h.elim (by omega) fun h=>h.elim (by omega) hz)];unfold tailP;rw[if_neg (show ¬ (46::b:List UInt8)=[] by simp),QS,Qj];by_cases hb:b.all dg=true
   ·have hh:dgs b=b.length:=by have:=dgs_all hb [];simpa [dgs] using this
    rw[hh,hb,QX];by_cases hbl:0<b.length/\b.length<=4
    ·rw[decide_eq_true hbl.1,decide_eq_true hbl.2,if_neg (by decide)];refine(parse_four hall hl.1 hl.2 hb hbl.2 low).trans ?_;rw[if_neg];intro h;rcases h with h|h|h|h
     ·exact h rfl
     ·omega
     ·omega
     ·simp at h
    ·rw[if_pos ⟨rfl,by rw[QE,decide_eq_false_iff_not,decide_eq_false_iff_not];omega⟩,if_pos];simp only[Q9];omega
   ·have hx:=dgs_not hb [];rw[Qh] at hx;rw[if_pos ⟨rfl,by rw[QE];exact .inr (by simpa using hb)⟩,if_pos (.inr (.inr (.inr (by rw[Q9];omega))))]
 rotate_left
 ·have hx:=dgs_not hall (46::b);rw[if_pos (by rw[QE];exact .inr (by simpa using hall))];split
  ·rfl
  ·unfold tailP;obtain⟨k,hk⟩:=lt_ (dgs (a++46::b));rw[hk] at hx ⊢;have he: ¬ (a++46::b).drop k=[]:=fun e=>by
    have:=congrArg Qy e;rw[QB,Qi,QD] at this;omega
   have hq: ¬ (((a++46::b).drop k).getD 0 0).toNat=46:=by
    obtain⟨x,hd⟩:∃ x,a[k]? =some x:=⟨_,Q4 hx.1⟩
    rw[QU,QA,Nat.add_zero,hx.2,hd];exact h3 x (QO hd)
   rw[if_neg he,if_pos (.inl hq)]
 all_goals rw[if_pos (by rw[QE,decide_eq_false_iff_not,decide_eq_false_iff_not];omega),if_pos (by omega)]
theorem dgs_at:∀ {l:List UInt8} {i:Nat},i<dgs l->∃ c,l[i]? =some c/\dg c=true
 | [],i,h=>absurd h (Qe _)
 | c::l,i,h=>by
   unfold dgs at h;by_cases hc:dg c=true
   ·rw[if_pos hc] at h;cases i with
    | zero=>exact⟨c,rfl,hc⟩
    | succ i =>
      obtain⟨x,h1,h2⟩:=dgs_at (l:=l) (i:=i) (by omega);exact⟨x,by rw[Q7];exact h1,h2⟩
   ·rw[if_neg hc] at h;exact absurd h (Qe _)
theorem dgs_end:∀ {l:List UInt8},dgs l=l.length∨∃ c,l[dgs l]? =some c/\dg c=false
 | []=>.inl rfl
 | c::l=>by
   unfold dgs;by_cases hc:dg c=true
   ·rw[if_pos hc];rcases dgs_end (l:=l) with h|⟨x,h1,h2⟩
    ·exact .inl (by rw[h,Q9])
    ·exact .inr ⟨x,by rw[Q7];exact h1,h2⟩
   ·rw[if_neg hc];exact .inr ⟨c,rfl,by simpa using hc⟩
theorem numL_snoc (a:Nat) (l:List UInt8) (c:UInt8):numL a (l++[c])=10*numL a l+(c.toNat-48):=by
 unfold numL;rw[List.foldl_append]
 rfl
theorem all_at {l:List UInt8} (h:∀ (i:Nat) (c:UInt8),l[i]? =some c->dg c=true):l.all dg=true:=by
 rw[QZ];intro x hx;obtain⟨i,hi⟩:=List.mem_iff_getElem?.1 hx;exact h i x hi
theorem dgs_take (p:List UInt8) (j:Nat) (h:j<=dgs p):(p.take j).all dg=true:=by
 refine all_at fun i c hc=> ?_;rw[Qr] at hc;split at hc
 ·obtain⟨x,h1,h2⟩:=dgs_at (l:=p) (i:=i) (by omega);rw[h1] at hc;injection hc with hc;rw[<- hc];exact h2
 ·cases hc
theorem r1_isDigit (c:UInt8) (w:World):Calls prog 259 #[.int .u8 ((c.toNat:Nat):Int)] w fun e w'=>e=.returned (.bool (dg c))/\w'=w:=by
 unfold dg;obtain⟨m,hm⟩:=lt_ c.toNat;rw[hm];clear hm;by_cases h1:48<=m
 have ha:(48:Int)<=(m:Int):=by omega
 rw[decide_eq_true h1];by_cases h2:m<=57
 have hb:(m:Int)<=57:=by omega
 rw[decide_eq_true h2]
 rotate_left
 have hb: ¬ (m:Int)<=57:=by omega
 rw[decide_eq_false h2]
 rotate_left
 have ha: ¬ (48:Int)<=(m:Int):=by omega
 rw[decide_eq_false h1];all_goals
  go_enter func259,ntmps259;go_wp2;all_goals go_ret;all_goals exact⟨rfl,rfl⟩
theorem r1_digits (l:List UInt8) (a:Nat) (ha:a<=l.length) (hl:l.length<=1000000000) (w:World):Calls prog 166 #[.string (bs l),.int .i64 (a:Int)] w fun e w'=>e=.returned (.int .i64 ((dgs (l.drop a):Nat):Int))/\w'=w:=by
 obtain⟨n,hn⟩:=lt_ (dgs (l.drop a));obtain⟨P,hP⟩:=lt_ l.length;have hz:(bs l).size=P:=by rw[zAu,hP]
 have hnl:n<=P-a:=by rw[<- hn,<-hP,<-QB];exact dgs_le _
 rw[hP] at ha hl;have hq:=zh (fun i (h:i<n)=>show ∃ c,l[a+i]? =some c/\dg c=true by
  rw[<- QA];exact dgs_at (by rw[hn];exact h))
 have hf:=zh (show a+n=P∨∃ c,l[a+n]? =some c/\dg c=false by
  rcases dgs_end (l:=l.drop a) with h|⟨c,h1,h2⟩
  ·exact .inl (by rw[hn,QB,hP] at h;omega)
  ·exact .inr ⟨c,by rw[QA,hn] at h1;exact h1,h2⟩)
 have ho:=zh (fun i c (h:l[i]? =some c)=>show i<P by rw[<- hP];exact(Q8.1 h).1);have hh:=zh (fun i c (h:l[i]? =some c)=>bs_index l h);rw[hn];obtain⟨b,hb⟩:=lt_ (bs l);rw[hb] at hz hh ⊢;clear hn hP hb;go_enter func166,ntmps166;go_wp2
 go_loop [5] (fun t=>∃ i:Nat,i<=n/\t=.int .i64 (i:Int)) (fun t=>n-(intOf t).toNat)
 case atStart=>exact⟨0,QI _,rfl⟩
 case round =>
  obtain⟨i,hi,rfl⟩:=hrel;obtain⟨g,hg⟩:=lt_ (a+i);have w1:Q5.wrap ((a:Int)+(i:Int))=(g:Int):=by rw[Q3];omega
  by_cases hlt:i<n
  ·obtain⟨c,hc,hd⟩:=hq.out i hlt;rw[hg] at hc;have hr:=ho.out _ _ hc;have hk:=hh.out g c hc;have he:=zh (fun w=>r1_isDigit c w);rw[hd] at he;have hp:(g:Int)<(P:Int):=by omega
   have wi:Q5.wrap ((i:Int)+1)=((i+1:Nat):Int):=by rw[Q3];omega
   have hj:=QJ c;obtain⟨m,hm⟩:=lt_ c.toNat;rw[hm] at hk he hj;clear hc hd hm hg;go_wp2_with(go_at_call 259;refine(he.out _).mono ?_;rintro e w1 ⟨rfl,h⟩;obtain rfl:=h.symm;clear h)
   go_round;case rel=>exact⟨i+1,by omega,rfl⟩
   case measure=>simp[intOf];omega
  obtain rfl:i=n:=by omega
  rcases hf.out with h|⟨c,hc,hd⟩
  have hp: ¬ (g:Int)<(P:Int):=by omega
  clear hg h
  rotate_left
  rw[hg] at hc;have hr:=ho.out _ _ hc;have hk:=hh.out g c hc;have he:=zh (fun w=>r1_isDigit c w);rw[hd] at he;have hp:(g:Int)<(P:Int):=by omega
  have hj:=QJ c;obtain⟨m,hm⟩:=lt_ c.toNat;rw[hm] at hk he hj;clear hc hd hm hg;all_goals
   go_wp2_with(go_at_call 259;refine(he.out _).mono ?_;rintro e w1 ⟨rfl,h⟩;obtain rfl:=h.symm;clear h)
   all_goals go_ret;all_goals exact⟨rfl,rfl⟩
def FourAt (l E:List UInt8) (g k:Nat):Prop:=E.length=4/\∀ i,i<4->∃ c,E[i]? =some c/\dg c=true/\((i<k/\l[g+i]? =some c)∨(k<=i/\c=48))
theorem four_none (l:List UInt8) (g:Nat):FourAt l (QC 4 48) g 0 :=
 ⟨rfl,fun i hi=>⟨48,by rw[Qd,if_pos hi],rfl,.inr ⟨QI _,rfl⟩⟩⟩
theorem four_some {l t:List UInt8} {g k:Nat} (hk:dgs t=k) (hl:t.length=k) (h4:k<=4) (ht:∀ i,t[i]? =l[g+i]?):FourAt l (t++QC (4-k) 48) g k:=by
 refine⟨by rw[QD,List.length_replicate];omega,fun i hi=> ?_⟩;by_cases h:i<k
 ·obtain⟨c,h1,h2⟩:=dgs_at (l:=t) (i:=i) (by omega);exact⟨c,by rw[QY (by omega)];exact h1,h2,.inl ⟨h,by rw[<- ht];exact h1⟩⟩
 ·exact⟨48,by rw[List.getElem?_append_right (by omega),Qd,if_pos (by omega)],rfl,.inr ⟨by omega,rfl⟩⟩
theorem four_lt {l E P:List UInt8} {g k:Nat} (h:FourAt l E g k) (hP:P.all dg=true) (h15:P.length<=15) (i:Nat) (hi:i<=4):numL 0 (P++E.take i)<10000000000000000000:=by
 have hE:(E.take i).all dg=true:=by
  refine all_at fun j c hc=> ?_;rw[Qr] at hc;split at hc
  ·obtain⟨x,h1,h2,_⟩:=h.2 j (by omega);rw[h1] at hc;injection hc with hc;rw[<- hc];exact h2
  ·cases hc
 have h1:=numL_lt (P++E.take i) 0 (by rw[Qg,hP,hE];rfl);rw[QD,QF,h.1,Qc,Qx] at h1;exact QT h1 (QP (n:=10) (by decide) (show P.length+min i 4<=19 by omega))
theorem four_step {l E P:List UInt8} {g k i:Nat} (h:FourAt l E g k) (hi:i<4):∃ d,numL 0 (P++E.take (i+1))=10*numL 0 (P++E.take i)+d/\((i<k/\∃ c,l[g+i]? =some c/\48<=c.toNat/\c.toNat=d+48/\d<10)∨(k<=i/\d=0)):=by
 obtain⟨c,h1,h2,h3⟩:=h.2 i hi;refine⟨c.toNat-48,by rw[zAJ h1,<-Qv,numL_snoc],?_⟩;have:=dg_of h2;rcases h3 with ⟨h4,h5⟩|⟨h4,rfl⟩
 ·exact .inl ⟨h4,c,h5,this.1,by omega,by omega⟩
 ·exact .inr ⟨h4,rfl⟩
theorem r1_Parse_arm (low:Bool) (A:Nat) (l p:List UInt8) (hA:low=true/\A=1/\l=45::p∨low=false/\A=0/\l=p/\∃ x0:UInt8,l[0]? =some x0/\¬ x0.toNat=45) (hp:p.length<=900000000) (w:World):Calls prog 113 #[.string (bs l)] w fun e w'=>e=.returned (.tuple #[.int .i64 (refP low p).1,.bool (refP low p).2])/\w'=w:=by
 obtain⟨P,hP⟩:=lt_ l.length;have Hk:P=p.length+A:=by rw[<- hP];rcases hA with ⟨_,rfl,rfl⟩|⟨_,rfl,rfl,_⟩<;>simp
 have hz:(bs l).size=P:=by rw[zAu,hP]
 obtain⟨n,hn⟩:=lt_ (dgs p);have hnp:n<=p.length:=by rw[<- hn];exact dgs_le p
 have He:=zh (fun x=>show l[A+x]? =p[x]? by rcases hA with ⟨_,rfl,rfl⟩|⟨_,rfl,rfl,_⟩;rw[Nat.add_comm,Q7];rw[Qc]);have hW:=zh (fun j c (h:p[j]? =some c)=>show l[A+j]? =some c by rw[He.out];exact h);have Hg:=zh (fun j (h:j<n)=>dgs_at (l:=p) (i:=j) (by rw[hn];exact h));have hV:=zh (fun i c (h:l[i]? =some c)=>show i<P by rw[<- hP];exact(Q8.1 h).1);have hs:=zh (fun i c (h:l[i]? =some c)=>bs_index l h);have hU:=zh hP;have HN:=zh hn;have Hh:=zh Hk;have hA1:A<=1:=by rcases hA with ⟨_,h,_⟩|⟨_,h,_⟩<;>omega
 have hT:=zh (fun w=>r1_digits l A (by omega) (by omega) w);have Ho:l.drop A=p:=by rcases hA with ⟨_,rfl,rfl⟩|⟨_,rfl,rfl,_⟩<;>rfl
 rw[Ho,hn] at hT;obtain⟨b,hb⟩:=lt_ (bs l);have Hu:=zh hb;rw[hb] at hz hs hT ⊢;obtain⟨y,hY,hP0,ht⟩:∃ y:Nat,(∀ w,(Instr.index 9 (.string b) (.int .i64 0)).run prog w=.ok (.int .u8 (y:Int)) w)/\0<P/\(low=true/\A=1/\(y:Int)=45∨low=false/\A=0/\¬ (y:Int)=45):=by
  rcases hA with ⟨h1,h2,rfl⟩|⟨h1,h2,_,x0,h3,h4⟩
  ·exact⟨45,hs.out 0 45 rfl,by omega,.inl ⟨h1,h2,rfl⟩⟩
  ·exact⟨_,hs.out 0 x0 h3,hV.out 0 x0 h3,.inr ⟨h1,h2,by omega⟩⟩
 obtain⟨R,hR⟩:=lt_ (refP low p);rw[hR];unfold refP at hR;rw[hn] at hR;have hPm:P<=1000000000:=by omega
 have HD:(0:Int)<(P:Int):=by omega
 have hnP:A+n<=P:=by omega
 clear hn hP Hk hb Ho hA hp;go_enter func113,ntmps113
 go_upto_region 2 with fail
 go_cut [5] from 13 to 20 (fun s wx=>s=.bool low/\wx=w)
 case first =>
  rcases ht with ⟨rfl,_,hy⟩|⟨rfl,_,hy⟩
  all_goals(go_wp2;go_meet;exact⟨by simp[hy],rfl⟩)
 case rest =>
 obtain⟨rfl,h⟩:=hcut;obtain rfl:=h.symm
 go_upto_if 21 with fail
 go_cut [4] from 21 to 21 (fun s wx=>s=.int .i64 (A:Int)/\wx=w)
 case first =>
  rcases ht with ⟨rfl,rfl,hy⟩|⟨rfl,rfl,hy⟩
  all_goals(go_wp2;go_meet;exact⟨rfl,rfl⟩)
 case rest =>
 obtain⟨rfl,h⟩:=hcut;obtain rfl:=h.symm;clear hY ht;have HX:=zh (fun (h: ¬ n<1)=>show ∀ w,(Instr.index 9 (.string b) (.int .i64 (A:Int))).run prog w=.ok (.int .u8 (((p.getD 0 0).toNat:Nat):Int)) w by
  obtain⟨x0,Ht,_⟩:=Hg.out 0 (by omega);rw[QU,Ht];exact hs.out A x0 (hW.out 0 x0 Ht))
 have hAP: ¬ n<1->A<P:=fun h=>by omega
 obtain⟨x,hx⟩:=lt_ ((p.getD 0 0).toNat);rw[hx] at hR HX;clear hx;obtain⟨B,hB⟩:=lt_ (decide (n<1∨15<n∨x=48/\1<n))
 go_upto_region 6 with (first|(go_at_call 166;refine(hT.out _).mono ?_;rintro e w1 ⟨rfl,h⟩;obtain rfl:=h.symm;clear h))
 go_cut [40] from 25 to 40 (fun s wx=>s=.bool B/\wx=w)
 case first =>
  by_cases hn1:n<1
  ·have HO:(n:Int)<1:=by omega
   go_wp2
   go_meet
   exact⟨by rw[<- hB,decide_eq_true (.inl hn1)],rfl⟩
  have HM: ¬ (n:Int)<1:=by omega
  by_cases hG:15<n
  ·have HO:(15:Int)<(n:Int):=by omega
   go_wp2
   go_meet
   exact⟨by rw[<- hB,decide_eq_true (.inr (.inl hG))],rfl⟩
  have Hr: ¬ (15:Int)<(n:Int):=by omega
  have hu:=HX.out hn1;have hAI:(A:Int)<(P:Int):=by omega
  by_cases hx:x=48
  ·subst hx;by_cases h1:1<n
   ·have HA:(1:Int)<(n:Int):=by omega
    go_wp2
    go_meet
    exact⟨by rw[<- hB,decide_eq_true (.inr (.inr ⟨by trivial,h1⟩))],by trivial⟩
   ·have HA: ¬ (1:Int)<(n:Int):=by omega
    go_wp2
    go_meet
    exact⟨by rw[<- hB,decide_eq_false (by omega)],by trivial⟩
  ·have hxI: ¬ (x:Int)=48:=by omega
   go_wp2
   go_meet
   exact⟨by rw[<- hB,decide_eq_false (by omega)],by trivial⟩
 case rest =>
 obtain⟨rfl,h⟩:=hcut;obtain rfl:=h.symm;cases B with
 | true =>
   rw[if_pos (of_decide_eq_true hB)] at hR;subst hR;go_wp2;all_goals(go_returns;exact⟨rfl,rfl⟩)
 | false =>
 rw[if_neg (of_decide_eq_false hB)] at hR;have hB:=of_decide_eq_false hB;obtain⟨e,he⟩:=lt_ (A+n);have w0:Q5.wrap ((A:Int)+(n:Int))=(e:Int):=by rw[Q3];omega
 have Hw:=zh hR;have hr:=zh he;have Hd:=zh (fun j (h:j<=n)=>show numL 0 (p.take j)<1000000000000000 by
  have h1:=numL_lt (p.take j) 0 (dgs_take p j (by rw[HN.out];exact h));rw[QF,Qc,Qx] at h1;exact QT h1 (QP (n:=10) (by decide) (show min j p.length<=15 by omega)))
 have hG:n<=15:=by omega
 clear hR HX hB;go_wp2_with fail
 go_loop [7,8] (fun t x=>∃ i j:Nat,i=A+j/\j<=n/\t=.int .u64 ((numL 0 (p.take j):Nat):Int)/\x=.int .i64 (i:Int)) (fun _ x=>A+n-(intOf x).toNat)
 case atStart=>exact⟨A,0,rfl,QI _,rfl,rfl⟩
 case round =>
  obtain⟨i,j,hS,hj,rfl,rfl⟩:=hrel;by_cases hlt:j<n
  ·obtain⟨c,hc,Hn⟩:=Hg.out j hlt;have hC:=Hd.out j hj;have hh:=Hd.out (j+1) hlt;have hJ:=numL_snoc 0 (p.take j) c;rw[<- zAJ hc] at hJ;have hO:=hW.out j c hc;rw[<- hS] at hO;have HI:=hV.out _ _ hO;have hu:=hs.out i c hO;have Hq:(i:Int)<(e:Int):=by have:=hr.out;omega
   have wi:Q5.wrap ((i:Int)+1)=((i+1:Nat):Int):=by rw[Q3];omega
   rw[hJ] at hh;have HQ:=zh hJ;obtain⟨hX,HB⟩:=dg_of Hn;obtain⟨m,hm⟩:=lt_ c.toNat;rw[hm] at hu hX HB HQ hh;obtain⟨d,hd⟩:=lt_ (m-48);rw[hd] at HQ hh;obtain⟨a,ha⟩:=lt_ (numL 0 (p.take j));rw[ha] at hC hh HQ ⊢;obtain⟨b,hb⟩:=lt_ (10*a);rw[hb] at HQ hh;obtain⟨z,hH⟩:=lt_ (b+d);rw[hH] at HQ hh;have w2:QM.wrap (10*(a:Int))=(b:Int):=by rw[QN];omega
   have w5:Qn.wrap ((m:Int)-48)=(d:Int):=by rw[QQ];omega
   have w6:QM.wrap (d:Int)=(d:Int):=zAH (by omega);have w7:QM.wrap ((b:Int)+(d:Int))=(z:Int):=by rw[QN];omega
   have Hf:=zh hS;clear hJ hc hO hm hd ha hb hH Hn hh hS;go_wp2;go_round;case rel=>exact⟨i+1,j+1,by rw[Hf.out];omega,hlt,by rw[HQ.out],rfl⟩
   case measure=>have h1:=Hf.out;have h2:=hr.out;simp[intOf];omega
  ·obtain rfl:j=n:=by omega
   obtain rfl:i=e:=by have:=hr.out;omega
   have Hq: ¬ (i:Int)<(i:Int):=by omega
   clear hS hlt hj;have hK:(p.take j).all dg=true:=dgs_take p j (QR HN.out.symm);have hL:(p.take j).length<=15:=by rw[QF];omega
   have hR:=Hw.out;unfold tailP at hR;obtain⟨Pn,Hj⟩:=lt_ (p.take j);rw[Hj] at hR hK hL ⊢;clear Hj;obtain⟨aN,hM⟩:=lt_ (numL 0 Pn);rw[hM];obtain⟨f,hf⟩:=lt_ (i+1);have w3:Q5.wrap ((i:Int)+1)=(f:Int):=by rw[Q3];omega
   go_upto_if 63 with fail
   go_cut [9] from 63 to 88 (fun s wx=>∃ (k:Nat) (E:List UInt8),s=.int .i64 (k:Int)/\FourAt l E f k/\finP low (numL 0 (Pn++E))=R/\wx=w)
   case first =>
    by_cases hq:p.drop j=[]
    ·rw[if_pos hq] at hR;have HP: ¬ (i:Int)<(P:Int):=by
      have h:=congrArg Qy hq;rw[QB,Qi] at h;have:=Hh.out;have:=hr.out;omega
     go_wp2
     go_meet
     exact⟨0,_,rfl,four_none _ _,hR,rfl⟩
    have HP:i<P:=by
     have h:0<(p.drop j).length:=by rcases hx:p.drop j with _|⟨a,t⟩;exact absurd hx hq;simp
     rw[QB] at h;have:=Hh.out;have:=hr.out;omega
    have HS:(i:Int)<(P:Int):=by omega
    obtain⟨c,t,hQ⟩:∃ c t,p.drop j=c::t:=by rcases hx:p.drop j with _|⟨a,t⟩;exact absurd hx hq;exact⟨a,t,rfl⟩
    have Hm:p[j]? =some c:=by have h:=congrArg (fun x=>x[0]?) hQ;simpa using h
    have hu:=hs.out _ c (hW.out j c Hm);rw[show A+j=i from hr.out] at hu;have Hc:∀ x,t[x]? =l[f+x]? :=fun x=>by
     rw[<- hf,<-hr.out,show A+j+1+x=A+(j+1+x) by omega,He.out (j+1+x),<-QA];have h:=congrArg (List.drop 1) hQ;rw[List.drop_drop,QS,Qj] at h;rw[h]
    have hv:l.drop f=t:=by
     apply List.ext_getElem?;intro x;rw[Hc x,QA]
    have hI:=zh (fun w=>r1_digits l f (by rw[hU.out];omega) (by rw[hU.out];omega) w);rw[hv,Hu.out] at hI;have hl:t.length=P-f:=by rw[<- hv,QB,hU.out]
    obtain⟨k,hk⟩:=lt_ (dgs t);have hE:k<=t.length:=by rw[<- hk];exact dgs_le t
    rw[hk] at hI;rw[if_neg hq,hQ,QS,Qj,hk] at hR;have Hs:((c::t).getD 0 0).toNat=c.toNat:=rfl;rw[Hs] at hR;have HG:=QJ c;obtain⟨y,hy⟩:=lt_ c.toNat;rw[hy] at hR hu HG;rw[Q9] at hR;have Hz:=zh Hc;have HK:=zh hk;clear hq hQ Hm Hc hv Hs hy hk hK hL hM;obtain⟨g,hg⟩:=lt_ (f+k);have w4:Q5.wrap ((f:Int)+(k:Int))=(g:Int):=by rw[Q3];omega
    by_cases hy46: ¬ y=46
    rw[if_pos (.inl hy46)] at hR;subst hR;have hyI: ¬ (y:Int)=46:=by omega
    clear hg w4 hl hE
    rotate_left
    obtain rfl:y=46:=by omega
    by_cases hk1:k<1
    rw[if_pos (.inr (.inl hk1))] at hR;subst hR;have Hb:(k:Int)<1:=by omega
    clear hg w4 hl hE
    rotate_left
    have hZ: ¬ (k:Int)<1:=by omega
    by_cases hk4:4<k
    rw[if_pos (.inr (.inr (.inl hk4)))] at hR;subst hR;have Hb:(4:Int)<(k:Int):=by omega
    clear hg w4 hl hE
    rotate_left
    have Ha: ¬ (4:Int)<(k:Int):=by omega
    by_cases hgo:k+1<t.length+1
    rw[if_pos (.inr (.inr (.inr hgo)))] at hR;subst hR;have Hp:(g:Int)<(P:Int):=by omega
    clear hg hl hE hgo
    rotate_left
    ·rw[if_neg (by rintro(h|h|h|h);exact h rfl;exact hk1 h;exact hk4 h;exact hgo h),Qv] at hR;have Hp: ¬ (g:Int)<(P:Int):=by omega
     have hgB:decide ((g:Int)<(P:Int))=false:=decide_eq_false Hp;have HJ:decide ((k:Int)<1)=false:=decide_eq_false hZ;have HL:decide ((4:Int)<(k:Int))=false:=decide_eq_false Ha;have HF:=zh (four_some (l:=l) (t:=t) (g:=f) HK.out (by omega) (by omega) Hz.out);clear hg hl hE hgo;go_wp2_with(go_at_call 166;refine(hI.out _).mono ?_;rintro e w1 ⟨rfl,h⟩;obtain rfl:=h.symm;clear h)
     go_meet
     exact⟨k,_,rfl,HF.out,hR,rfl⟩
    all_goals
     go_wp2_with(go_at_call 166;refine(hI.out _).mono ?_;rintro e w1 ⟨rfl,h⟩;obtain rfl:=h.symm;clear h)
     all_goals(go_returns;exact⟨rfl,rfl⟩)
   case rest =>
    obtain⟨k,E,rfl,hF,hR,h⟩:=hcut;obtain rfl:=h.symm;have HF:=zh hF;have HR:=zh hR.symm;have hw:=zh (fun i h=>four_lt hF hK hL i h);have Hy:=zh (fun i h=>four_step (P:=Pn) (i:=i) hF h);have Hv:=zh (show numL 0 (Pn++E.take 0)=aN by rw[List.take_zero,Qh,hM]);clear hF hR hK hL hM;go_wp2_with fail
    go_loop [7,10] (fun t x=>∃ i:Nat,i<=4/\t=.int .u64 ((numL 0 (Pn++E.take i):Nat):Int)/\x=.int .i64 (i:Int)) (fun _ x=>4-(intOf x).toNat)
    case atStart=>exact⟨0,QI _,by rw[Hv.out],rfl⟩
    case round =>
     obtain⟨i,hi,rfl,rfl⟩:=hrel;have hC:=hw.out i hi;by_cases hlt:i<4
     ·obtain⟨d,hd,hc⟩:=Hy.out i hlt;have hh:=hw.out (i+1) hlt;have Hq:(i:Int)<4:=by omega
      have wi:Q5.wrap ((i:Int)+1)=((i+1:Nat):Int):=by rw[Q3];omega
      rw[hd] at hh;have HQ:=zh hd;obtain⟨a,ha⟩:=lt_ (numL 0 (Pn++E.take i));rw[ha] at hC hh HQ ⊢;obtain⟨b,hb⟩:=lt_ (10*a);rw[hb] at HQ hh;have w2:QM.wrap (10*(a:Int))=(b:Int):=by rw[QN];omega
      rcases hc with ⟨hk,c,hc,hX,Hl,HH⟩|⟨hk,rfl⟩
      obtain⟨g,hg⟩:=lt_ (f+i);rw[hg] at hc;have HI:=hV.out _ _ hc;have hu:=hs.out g c hc;obtain⟨m,hm⟩:=lt_ c.toNat;rw[hm] at hu Hl hX;have w4:Q5.wrap ((f:Int)+(i:Int))=(g:Int):=by rw[Q3];omega
      have Hb:(i:Int)<(k:Int):=by omega
      have w5:Qn.wrap ((m:Int)-48)=(d:Int):=by rw[QQ];omega
      have w6:QM.wrap (d:Int)=(d:Int):=zAH (by omega);obtain⟨z,hH⟩:=lt_ (b+d);rw[hH] at HQ;have w7:QM.wrap ((b:Int)+(d:Int))=(z:Int):=by rw[QN];omega
      clear hd ha hb hh hc hm hg Hl hH
      rotate_left
      have Hb: ¬ (i:Int)<(k:Int):=by omega
      have HQ:=zh (show numL 0 (Pn++E.take (i+1))=b from HQ.out);clear hd ha hb hh;all_goals
       go_wp2;go_round;case rel=>exact⟨i+1,by omega,by rw[HQ.out],rfl⟩
       case measure=>simp[intOf];omega
     obtain rfl:i=4:=by omega
     obtain⟨N,hN⟩:=lt_ (numL 0 (Pn++E));have Hi:numL 0 (Pn++E.take 4)=N:=by rw[QK (QR HF.out.1)];exact hN
     rw[Hi] at hC ⊢;have ho:=HR.out;rw[hN] at ho;unfold finP at ho;have hD:N<18446744073709551616:=by omega
     clear hN Hi;by_cases hbig:9223372036854775807<N
     rw[if_pos (.inl hbig)] at ho;subst ho;have HE:(9223372036854775807:Int)<(N:Int):=by omega
     rotate_left
     have HE: ¬ (9223372036854775807:Int)<(N:Int):=by omega
     by_cases hN0:low=true/\N=0
     rw[if_pos (.inr hN0)] at ho;subst ho;obtain⟨rfl,rfl⟩:=hN0
     rotate_left
     rw[if_neg (by rintro(h|h);exact hbig h;exact hN0 h)] at ho;subst ho;have Hx:=zh (fun w=>zBJ N hD low w);clear hD hC;cases low
     rotate_left
     have HC: ¬ (N:Int)=0:=fun h=>hN0 ⟨rfl,by omega⟩;all_goals
      go_wp2_with((go_at_call 160;refine(Hx.out _).mono ?_;rintro e w1 ⟨rfl,h⟩;obtain rfl:=h.symm;clear h))
      all_goals(go_returns;exact⟨rfl,rfl⟩)
end Go.Proofs.YtnccknhbplaieaaGreatDoor
