/- Parts. -/
import Derived.Test.YtnccknhbplaieaaGreatDoorC35
set_option linter.all false
set_option maxRecDepth 100000
set_option maxHeartbeats 4000000
namespace Go.Proofs.YtnccknhbplaieaaGreatDoor
open Go Go.RowKit Go.Proofs.Tryz
open Go.World renaming block_lt_of_cell?->Q3,ownsRow_nil->QE
open _root_.List renaming getElem?_eq_getElem->Q4,getElem?_map->Q5,not_mem_nil->Q8,getElem?_eq_some_iff->Q9,take_of_length_le->QA,range->QB,mem_cons->QC,length_map->QF,range_succ->QG,all_append->QH
open _root_.Bool renaming and_eq_true->Q7
open _root_.Nat renaming zero_le->QD,add_assoc->QI,add_zero->QJ
def OddB (w:World) (k:Nat):Prop:=(∃ x,w.cell? ⟨k,0,none⟩=some (.bool x))∨(∃ A n c,w.cell? ⟨k,0,none⟩=some (.slice A n c))∨w.heap[k]? =some zeroV
def oddV:Value->Bool
 | .bool _=>true
 | .slice _ _ _=>true
 | .int .i64 x=>x==0
 | _=>false
theorem OddB.v {w:World} {k:Nat} (h:OddB w k):∃ u,w.cell? ⟨k,0,none⟩=some u/\oddV u=true:=by
 rcases h with ⟨x,h⟩|⟨A,n,c,h⟩|h
 ·exact⟨_,h,rfl⟩
 ·exact⟨_,h,rfl⟩
 ·exact⟨_,zero_cell h,rfl⟩
theorem OddB.no {w:World} {k:Nat} {u:Value} (h:w.cell? ⟨k,0,none⟩=some u) (hu:oddV u=false): ¬ OddB w k:=fun ho=>by
 obtain⟨v,h1,h2⟩:=ho.v;rw[h] at h1;cases h1;rw[hu] at h2;cases h2
theorem OddB.one {w:World} {k:Nat} {t:Int} (h:w.cell? ⟨k,0,none⟩=some (.int .i64 t)) (ho:OneCell w k): ¬ OddB w k:=fun h1=>by
 rcases h1 with ⟨x,h2⟩|⟨A,n,c,h2⟩|h2
 ·rw[h] at h2;cases h2
 ·rw[h] at h2;cases h2
 ·have:=ho.2 1 _ (zero_cell1 h2);omega
theorem DoOK.no {w:World} {f:Value} {d:Doer} (h:DoOK w f d):oddV f=false:=by
 cases d with
 | plain k=>cases h;rfl
 | truths k=>obtain⟨p,h1,_⟩:=h;cases h1;rfl
 | tagged t=>obtain⟨p,h1,_⟩:=h;cases h1;rfl
section
variable {w w':World} (hs:w.heap.size<=w'.heap.size) (hk:∀ k,k<w.heap.size->¬ OddB w k->w'.heap[k]? =w.heap[k]?)
include hk
theorem keep_no {p i:Nat} {u:Value} (h:w.cell? ⟨p,i,none⟩=some u) (hp: ¬ OddB w p):w'.cell? ⟨p,i,none⟩=some u :=
 (World.cell?_of_block (a:=⟨p,i,none⟩) (hk p (Q3 w _ h) hp)).trans h
theorem keep_0 {p:Nat} {u:Value} (h:w.cell? ⟨p,0,none⟩=some u) (hu:oddV u=false):w'.cell? ⟨p,0,none⟩=some u:=keep_no hk h (OddB.no h hu)
include hs
theorem DoOK.apart {f:Value} {d:Doer} (h:DoOK w f d):DoOK w' f d:=by
 cases d with
 | plain k=>exact h
 | truths k =>
   obtain⟨p,h1,h2⟩:=h;exact⟨p,h1,keep_0 hk h2 rfl⟩
 | tagged t =>
   obtain⟨p,h1,h2,h3⟩:=h;have hp:=OddB.one h2 h3;exact⟨p,h1,keep_no hk h2 hp,h3.of_block hs (hk p h3.1 hp)⟩
theorem EntE.apart {s:ByteArray} {v:Value} (h:EntE w s v):EntE w' s v:=by
 rcases h with ⟨x,y,d,e,pl,pm,pd,f,ev,h1,h2,h3,h4⟩|⟨i,e,pb,pn,ev,h0,h1,h2,h3⟩
 ·have hl:=ownTab_lows e;refine .inl ⟨x,y,d,e,pl,pm,pd,f,ev,keep_0 hk h1 ?_,keep_0 hk h2 ?_,keep_0 hk h3 (DoOK.no h4),h4.apart hs hk⟩
  ·show (x==0)=false;simp;omega
  ·show (y==0)=false;simp;omega
 ·have hp:=OddB.no h0 rfl;exact .inr ⟨i,e,pb,pn,ev,keep_no hk h0 hp,keep_no hk h1 hp,keep_no hk h2 hp,keep_0 hk h3 rfl⟩
theorem zB8.apart {m:Nat} (h:zB8 w m):zB8 w' m:=by
 have hl:=h.lt;obtain⟨L,h3,h4,h5⟩:=h;have hm: ¬ OddB w m:=fun ho=>by
  obtain⟨v,h1,_⟩:=ho.v;unfold World.cell? at h1;rw[h3] at h1;cases h1
 exact⟨L,(hk m hl hm).trans h3,fun s v hv=>(h4 s v hv).apart hs hk,h5⟩
theorem Ready.apart {b:Nat} (h:Ready w b):Ready w' b:=by
 obtain⟨d,m,hd,h0,h3,hM⟩:=h;have hb:=OddB.no h0 rfl;exact⟨d,m,hd,keep_no hk h0 hb,keep_no hk h3 hb,hM.apart hs hk⟩
theorem TabOK.apart {b:Nat} (h:TabOK w b):TabOK w' b:=by
 rcases h with h|⟨h0,h1,h3,hf⟩
 ·exact .inl (h.apart hs hk)
 ·have hb:=OddB.no h0 rfl;have hl:=Q3 w _ h0;exact .inr ⟨keep_no hk h0 hb,keep_no hk h1 hb,keep_no hk h3 hb,fun i=>(World.frozen?_of_block (a:=⟨b,i,none⟩) (hk b hl hb)).trans (hf i)⟩
end
open Go.Lib renaming hid->zh
theorem truths_asks (v:V) (w:World):Rt 181 #[(vG v)] w (.bool (v.tag==4)):=by
 go_enter func181,ntmps181;go_wp2;all_goals go_ret;all_goals exact rb_
def IdxF (vs:List V) (r:Int):Prop:=(∃ (k:Nat) (v:V),r=k/\vs[k]? =some v/\v.tag=4/\∀ j u,j<k->vs[j]? =some u->u.tag≠4)∨(r= -1/\∀ (j:Nat) (u:V),vs[j]? =some u->u.tag≠4)
theorem index_fault (vs:List V) (g n c:Nat) (w:World) (hn:vs.length=n) (hm:n<=1000000000000) (hl:g<w.heap.size) (h:Held w g vs) :
  Calls prog 180 #[.slice (some ⟨g,0,none⟩) n c,.func (.func 181) #[] #[]] w fun e w'=>(∃ r,e=.returned (.int .i64 r)/\IdxF vs r)/\Below w.heap.size w w':=by
 have H:=zh h;clear h;go_enter func180,ntmps180;go_wp2
 go_loopw [8] (fun t wr=>∃ k:Nat,k<=n/\t=.int .i64 k/\(∀ j u,j<k->vs[j]? =some u->u.tag≠4)/\Below w.heap.size w wr) (fun t _=>n-(intOf t).toNat)
 case atStart=>exact⟨0,QD _,rfl,fun j u hj=>by omega,Below.refl _ _⟩
 case round =>
  obtain⟨k,hk,rfl,ha,hB⟩:=hrel;by_cases hlt:k<n
  ·obtain⟨v,hv⟩:∃ v,vs[k]? =some v:=⟨_,Q4 (show k<vs.length by omega)⟩
   obtain⟨v0,v1,v2,v3,v4⟩:=(H.out.keeps (zAr hB)).at k v hv _ _ _ _ _ rfl rfl rfl rfl rfl;have HV:=zh hv;have HN:=zh ha;have hc:=zh hB;have hs:=hB.size;clear hv ha hB;by_cases ht:v.tag=4
   ·have hd:(v.tag==4)=true:=by simp[ht]
    have HT:=zh ht;clear ht;go_wp2_with(go_at_call 181;refine mB (truths_asks v _) ?_;intro l q)
    all_goals go_ret;all_goals exact⟨⟨_,rfl,.inl ⟨k,v,rfl,HV.out,HT.out,HN.out⟩⟩,hc.out.trans ((show Below wr.heap.size wr _ from bel).mono hs)⟩
   ·have hd:(v.tag==4)=false:=by simp[ht]
    have HT:=zh ht;clear ht;go_wp2_with(go_at_call 181;refine mB (truths_asks v _) ?_;intro l q)
    go_roundw;case rel =>
     refine⟨k+1,by omega,by go_num,fun j u hj hu=> ?_,hc.out.trans ((show Below wr.heap.size wr _ from bel).mono hs)⟩;by_cases e:j=k
     ·subst e;rw[HV.out] at hu;cases hu;exact HT.out
     ·exact HN.out j u (by omega) hu
    case measure=>simp[intOf];omega
  ·have hb:=zh ha;clear ha;go_wp2;all_goals go_ret;all_goals exact⟨⟨_,rfl,.inr ⟨rfl,fun j u hu=>hb.out j u (by have:=(Q9.1 hu).1;omega) hu⟩⟩,hB⟩
def zBM (fy:Nat->Nat->Bool) (vs:List V):V:=match vs.find? (fun v=>v.tag==4) with
 | some v=>v
 | none=>match vs.find? (fun v=>(zA7 v).2 != 0) with
   | some v=>errG (zA7 v).2
   | none=>zAa (fy (vs.countP fun v=>(zA7 v).1) vs.length)
theorem find_first {p:V->Bool} {vs:List V} {k:Nat} {v:V} (hv:vs[k]? =some v) (hp:p v=true) (hno:∀ j u,j<k->vs[j]? =some u->p u=false):vs.find? p=some v:=by
 induction vs generalizing k with
 | nil=>simp at hv
 | cons x xs ih =>
   cases k with
   | zero=>simp at hv;subst hv;simp[hp]
   | succ k =>
     have h0:=hno 0 x (by omega) rfl;rw[List.find?_cons,h0];exact ih (by simpa using hv) (fun j u hj hu=>hno (j+1) u (by omega) (by simpa using hu))
theorem find_noF {p:V->Bool} {vs:List V} (hno:∀ (j:Nat) u,vs[j]? =some u->p u=false):vs.find? p=none:=by
 rw[List.find?_eq_none];intro x hx;obtain⟨j,hj⟩:=List.mem_iff_getElem?.1 hx;rw[hno j x hj];simp
theorem count_take {p:V->Bool} {vs:List V} {k:Nat} {v:V} (hv:vs[k]? =some v):(vs.take (k+1)).countP p=(vs.take k).countP p+if p v then 1 else 0:=by
 rw[zAJ hv,List.countP_append];simp[List.countP_cons]
theorem fault_cases (vs:List V):(∃ (k:Nat) (v:V),vs[k]? =some v/\v.tag=4/\∀ j u,j<k->vs[j]? =some u->u.tag≠4)∨∀ (j:Nat) (u:V),vs[j]? =some u->u.tag≠4:=by
 induction vs with
 | nil=>exact .inr fun j u h=>by simp at h
 | cons x xs ih =>
   by_cases hx:x.tag=4
   ·exact .inl ⟨0,x,rfl,hx,fun j u hj=>by omega⟩
   ·rcases ih with ⟨k,v,hv,ht,ha⟩|ha
    ·refine .inl ⟨k+1,v,by simpa using hv,ht,fun j u hj hu=> ?_⟩;cases j with
     | zero=>simp at hu;subst hu;exact hx
     | succ j=>exact ha j u (by omega) (by simpa using hu)
    ·refine .inr fun j u hu=> ?_;cases j with
     | zero=>simp at hu;subst hu;exact hx
     | succ j=>exact ha j u (by simpa using hu)
theorem idx_some {vs:List V} {r:Int} (h:IdxF vs r) {k:Nat} {v:V} (hv:vs[k]? =some v) (ht:v.tag=4) (hno:∀ j u,j<k->vs[j]? =some u->u.tag≠4):r=k:=by
 rcases h with ⟨k',v',rfl,hc,hb,ha⟩|⟨_,hn⟩
 ·rcases Nat.lt_trichotomy k k' with h|h|h
  ·exact absurd ht (ha k v h hv)
  ·rw[h]
  ·exact absurd hb (hno k' v' h hc)
 ·exact absurd ht (hn k v hv)
theorem idx_none {vs:List V} {r:Int} (h:IdxF vs r) (hno:∀ (j:Nat) (u:V),vs[j]? =some u->u.tag≠4):r= -1:=by
 rcases h with ⟨k',v',rfl,hc,hb,ha⟩|⟨e,_⟩
 ·exact absurd hb (hno k' v' hc)
 ·exact e
theorem funcs_truthsV (fk:Nat) (fy:Nat->Nat->Bool) (hk:∀ (args:Array Value) (w:World),Sem.run prog (callFunc fk args) w=.ok (.enter fk args) w)
  (hf:∀ (a b:Nat) (w:World),a<=b->b<=1000000000000->Calls prog fk #[.int .i64 a,.int .i64 b] w fun e w'=>e=.returned (.bool (fy a b))/\w=w')
  (vs:List V) (p g n c:Nat) (w:World) (hn:vs.length=n) (hm:n<=1000000000000) (h0:0<n) (hp:w.cell? ⟨p,0,none⟩=some (.func (.func fk) #[] #[])) (h:Held w g vs) :
  Rt 179 #[.slice (some ⟨g,0,none⟩) n c,.pointer (some ⟨p,0,none⟩)] w (vG (zBM fy vs)):=by
 have H:=zh h;have hpl:=Q3 w _ hp;have hgl:g<w.heap.size:=by
  obtain⟨v,hv⟩:∃ v,vs[0]? =some v:=⟨_,Q4 (show 0<vs.length by omega)⟩
  exact Q3 w _ (h.at 0 v hv 0 1 2 3 4 rfl rfl rfl rfl rfl).1
 have HF:=zh hf;clear h hf;have hl:Held (w.alloc zeroV) g vs:=H.out.keeps kps;unfold zeroV at hl;have hq:=zh hl;clear hl;obtain⟨cnt,hE,hw,hy,hx⟩:∃ cnt:Nat->Nat,cnt 0=0/\(∀ j v,vs[j]? =some v->cnt (j+1)=cnt j+if (zA7 v).1 then 1 else 0)/\cnt n=vs.countP (fun v=>(zA7 v).1)/\∀ j,cnt j<=n:=by
  refine⟨fun j=>(vs.take j).countP fun v=>(zA7 v).1,rfl,fun j v hv=>count_take hv,by simp only;rw[QA (by omega)],fun j=> ?_⟩;refine Nat.le_trans List.countP_le_length ?_;rw[List.length_take];omega
 have hC:=zh hw;have hA:=zh hy;have hh:=zh hx;clear hw hy hx;rcases fault_cases vs with ⟨k,v,hv,ht,hd⟩|hd
 ·obtain⟨v0,v1,v2,v3,v4⟩:=H.out.at k v hv _ _ _ _ _ rfl rfl rfl rfl rfl;have hkn:k<n:=by have:=(Q9.1 hv).1;omega
  have E:=zh (show zBM fy vs=v by unfold zBM;rw[find_first (p:=fun v=>v.tag==4) hv (by simp[ht]) (fun j u hj hu=>by simp[hd j u hj hu])]);have HI:=zh (fun r (hr:IdxF vs r)=>idx_some hr hv ht hd);clear hv ht hd;go_enter func179,ntmps179;go_wp2_with(go_at_call 180;refine(index_fault vs g n c _ hn hm (by simp;omega) hq.out).mono ?_;rintro e w1 ⟨⟨r,rfl,hr⟩,hb⟩;obtain rfl:=HI.out r hr;clear hr;obtain⟨l,q,rfl⟩:=zA0 hb;clear hb)
  all_goals(go_returns;exact⟨by rw[E.out],bel⟩)
 ·have hs:=zh (find_noF (p:=fun v=>v.tag==4) (vs:=vs) (fun j u hu=>by simp[hd j u hu]));have HI:=zh (fun r (hr:IdxF vs r)=>idx_none hr hd);clear hd;go_enter func179,ntmps179;go_wp2_with(go_at_call 180;refine(index_fault vs g n c _ hn hm (by simp;omega) hq.out).mono ?_;rintro e w1 ⟨⟨r,rfl,hr⟩,hb⟩;obtain rfl:=HI.out r hr;clear hr;obtain⟨l,q,rfl⟩:=zA0 hb;clear hb)
  go_loopw [20,5] (fun t m wr=>∃ j:Nat,j<=n/\t=.int .i64 j/\m=.int .i64 (cnt j:Nat)/\(∀ i u,i<j->vs[i]? =some u->((zA7 u).2 != 0)=false)/\Below (w.alloc zeroV).heap.size (w.alloc zeroV) wr) (fun t _ _=>n-(intOf t).toNat)
  case atStart=>exact⟨0,QD _,rfl,by rw[hE];rfl,fun i u hi=>by omega,zAf (Nat.le_refl _)⟩
  case round =>
   obtain⟨j,hj,rfl,rfl,hz,hB⟩:=hrel;obtain⟨l1,q1,rfl⟩:=zA0 hB;clear hB;unfold zeroV at *;by_cases hlt:j<n
   obtain⟨v,hv⟩:∃ v,vs[j]? =some v:=⟨_,Q4 (show j<vs.length by omega)⟩
   obtain⟨v0,v1,v2,v3,v4⟩:=H.out.at j v hv _ _ _ _ _ rfl rfl rfl rfl rfl;have hcj:=zh (hh.out j);have he:cnt j<=n:=hh.out j;have hg:=hC.out j v hv;by_cases hc:(zA7 v).2=0
   have ho:((zA7 v).2 != 0)=false:=by simp[hc]
   have HZ:=zh (show ∀ i u,i<j+1->vs[i]? =some u->((zA7 u).2 != 0)=false from fun i u hi hu=>by
    by_cases e:i=j
    ·subst e;rw[hv] at hu;cases hu;exact ho
    ·exact hz i u (by omega) hu)
   cases hb:(zA7 v).1
   rotate_left
   rotate_left
   ·have ho:((zA7 v).2 != 0)=true:=by simp[hc]
    have E:=zh (show zBM fy vs=errG (zA7 v).2 by unfold zBM;rw[hs.out,find_first (p:=fun v=>(zA7 v).2 != 0) hv ho (fun i u hi hu=>hz i u hi hu)]);clear hz hc hv hg;go_wp2_with(first|(go_at_call 177;refine(zBZ v _).mono ?_;rintro e w1 ⟨rfl,ha⟩;obtain⟨l2,q2,rfl⟩:=zA0 ha;clear ha)|(go_at_call 13;refine(zA3 _ _).mono ?_;rintro e w1 ⟨rfl,ha⟩;obtain⟨l3,q3,rfl⟩:=zA0 ha;clear ha))
    all_goals(go_returns;exact⟨by rw[E.out],bel⟩)
   ·obtain rfl:j=n:=by omega
    have he:cnt j<=j:=hh.out j;have E:=zh (show zBM fy vs=zAa (fy (cnt j) j) by unfold zBM;rw[hs.out,find_noF (p:=fun v=>(zA7 v).2 != 0) (fun i u hu=>hz i u (by have:=(Q9.1 hu).1;omega) hu),hA.out,hn]);clear hz;go_wp2_with(first|(with_reducible refine Calls.mono (HF.out (cnt j) j _ he hm) ?_;rintro e w2 ⟨rfl,rfl⟩)|(go_at_call 178;refine(value_Truth _ _).mono ?_;rintro e w1 ⟨rfl,ha⟩;obtain⟨l3,q3,rfl⟩:=zA0 ha;clear ha))
    all_goals(go_returns;exact⟨by rw[E.out],bel⟩)
   all_goals
    rw[hb] at hg;have hD:=zh hg;clear hz hc hv hg;go_wp2_with(go_at_call 177;refine(zBZ v _).mono ?_;rintro e w1 ⟨rfl,ha⟩;obtain⟨l2,q2,rfl⟩:=zA0 ha;clear ha)
    go_roundw;case rel=>exact⟨j+1,by omega,by go_num,by rw[hD.out];rfl,HZ.out,bel⟩
    case measure=>simp[intOf];omega
def fyAnd (a b:Nat):Bool:=(a:Int)==(b:Int)
def fyOr (a _:Nat):Bool:=decide (0<a)
def fyXor (a _:Nat):Bool:=(a:Int).tmod 2==1
def fyNot (a _:Nat):Bool:=(a:Int)==0
theorem own1_ok (a b:Nat) (w:World) (h:a<=b) (hb:b<=1000000000000):Calls prog 133 #[.int .i64 a,.int .i64 b] w fun e w'=>e=.returned (.bool (fyAnd a b))/\w=w':=by
 unfold fyAnd;go_enter func133,ntmps133;go_wp2;all_goals go_ret;all_goals exact⟨rfl,rfl⟩
theorem own2_ok (a b:Nat) (w:World) (h:a<=b) (hb:b<=1000000000000):Calls prog 134 #[.int .i64 a,.int .i64 b] w fun e w'=>e=.returned (.bool (fyOr a b))/\w=w':=by
 unfold fyOr;go_enter func134,ntmps134;go_wp2;all_goals go_ret;all_goals exact⟨rfl,rfl⟩
theorem own4_ok (a b:Nat) (w:World) (h:a<=b) (hb:b<=1000000000000):Calls prog 136 #[.int .i64 a,.int .i64 b] w fun e w'=>e=.returned (.bool (fyNot a b))/\w=w':=by
 unfold fyNot;go_enter func136,ntmps136;go_wp2;all_goals go_ret;all_goals exact⟨rfl,rfl⟩
theorem may_faultT {x:V} (h:mayG x=true) (h4:x.tag=4):x=⟨4,0,⟨#[]⟩,false,x.code⟩/\1<=x.code/\x.code<=8:=by
 unfold mayG at h;simp only[Q7] at h;obtain⟨⟨_,h2⟩,h3⟩:=h;have e:=of_decide_eq_true (show decide (bareG x=⟨x.tag,0,⟨#[]⟩,false,0⟩)=true from h2);obtain⟨a,b,s,c,d⟩:=x;simp only at h4;subst h4;simp[bareG] at e;obtain⟨rfl,rfl,rfl⟩:=e;simp[isCode] at h3;exact⟨rfl,h3.1,h3.2⟩
theorem may_tag {x:V} (h:mayG x=true):0<=x.tag/\x.tag<=4:=by
 unfold mayG at h;simp only[Q7,decide_eq_true_eq] at h;exact h.1.1
def ownDo (s:ByteArray) (vs:List V):V :=
 if (⟨#[65,83,75]⟩:ByteArray)=s then errG 8 else
 if (⟨#[67,72,79,79,83,69]⟩:ByteArray)=s then chooseG vs else
 if (⟨#[69,82,82]⟩:ByteArray)=s then faultG (vs.getD 0 ⟨0,0,⟨#[]⟩,false,0⟩) else
 if (⟨#[69,82,82,78,79]⟩:ByteArray)=s then errnoG (vs.getD 0 ⟨0,0,⟨#[]⟩,false,0⟩) else
 if (⟨#[84,89,80,69]⟩:ByteArray)=s then typeG (vs.getD 0 ⟨0,0,⟨#[]⟩,false,0⟩) else
 if (⟨#[73,83,66,79,79,76]⟩:ByteArray)=s then zAa ((vs.getD 0 ⟨0,0,⟨#[]⟩,false,0⟩).tag==3) else
 if (⟨#[73,83,84,69,88,84]⟩:ByteArray)=s then zAa ((vs.getD 0 ⟨0,0,⟨#[]⟩,false,0⟩).tag==2) else
 if (⟨#[73,83,78,85,77]⟩:ByteArray)=s then zAa ((vs.getD 0 ⟨0,0,⟨#[]⟩,false,0⟩).tag==1) else
 if (⟨#[73,83,66,76,65,78,75]⟩:ByteArray)=s then zAa ((vs.getD 0 ⟨0,0,⟨#[]⟩,false,0⟩).tag==0) else
 if (⟨#[73,83,69,82,82]⟩:ByteArray)=s then zAa ((vs.getD 0 ⟨0,0,⟨#[]⟩,false,0⟩).tag==4) else
 if (⟨#[73,70,69,82,82]⟩:ByteArray)=s then iferrG vs else
 if (⟨#[78,79,84]⟩:ByteArray)=s then zBM fyNot vs else
 if (⟨#[88,79,82]⟩:ByteArray)=s then zBM fyXor vs else
 if (⟨#[79,82]⟩:ByteArray)=s then zBM fyOr vs else
 if (⟨#[65,78,68]⟩:ByteArray)=s then zBM fyAnd vs else
 if (⟨#[73,70]⟩:ByteArray)=s then zAz vs else
 errG 8
theorem own3_ok (a b:Nat) (w:World) (h:a<=b) (hb:b<=1000000000000):Calls prog 135 #[.int .i64 a,.int .i64 b] w fun e w'=>e=.returned (.bool (fyXor a b))/\w=w':=by
 go_enter func135,ntmps135;go_wp2;all_goals go_ret;all_goals exact⟨rfl,rfl⟩
theorem own_do {s:ByteArray} {x y:Int} {d:Doer} (ho:zAg s=some (x,y,d)) (xs:List Arg) (A:Option Addr) (n c B:Nat) (tx:Int) (w:World) (pd:Nat) (f:Value) (hc:w.cell? ⟨pd,0,none⟩=some f) (hD:DoOK w f d) (hr:Reads w B 11 A n (zAY xs)) (hm:n<=1000000000000)
  (hbt:between x y n=true) (h64:∀ v∈xs.map Arg.val,-9223372036854775808<=v.num/\v.num<=9223372036854775807) (hv:∀ v∈xs.map Arg.val,mayG v=true) :
  Rt 176 #[.slice A n c,.int .i64 tx,.pointer (some ⟨pd,0,none⟩)] w (vG (ownDo s (xs.map Arg.val))):=by
 have hi:xs.length=n:=by
  have:=hr.1;rw[zAN] at this;omega
 have h0:0<n:=by
  have hx:=(ownTab_lows ho).1;simp only[between,Q7,decide_eq_true_eq] at hbt;omega
 have hh:∀ k,(∀ (args:Array Value) (w:World),Sem.run prog (callFunc k args) w=.ok (.enter k args) w)->f=.func (.func k) #[] #[]->∀ r:V,(∀ w' g c',Held w' g (xs.map Arg.val)->Calls prog k #[.slice (some ⟨g,0,none⟩) n c'] w' fun e w''=>e=.returned (vG r)/\Below w'.heap.size w' w'') ->
   Rt 176 #[.slice A n c,.int .i64 tx,.pointer (some ⟨pd,0,none⟩)] w (vG r):=fun k hk hf r hd=>by
  subst hf;exact gather0 pd k hk tx xs A n c B w hc hr hm h0 r fun w' g c' _ hH=>hd w' g c' hH
 have hg:∀ k p,(∀ (args:Array Value) (w:World),Sem.run prog (callFunc k args) w=.ok (.enter k args) w)->f=.func (.func k) #[] #[.pointer (some ⟨p,0,none⟩)]->∀ r:V,(∀ w' g c',Below w.heap.size w w'->Held w' g (xs.map Arg.val)->Calls prog k #[.slice (some ⟨g,0,none⟩) n c',.pointer (some ⟨p,0,none⟩)] w' fun e w''=>e=.returned (vG r)/\Below w'.heap.size w' w'') ->
   Rt 176 #[.slice A n c,.int .i64 tx,.pointer (some ⟨pd,0,none⟩)] w (vG r):=fun k p hk hf r hd=>by
  subst hf;exact gather1 pd k p hk tx xs A n c B w hc hr hm h0 r fun w' g c' hb' hH=>hd w' g c' hb' hH
 obtain⟨vs,hj⟩:=lt_ (xs.map Arg.val);have ha:vs.length=n:=by rw[<- hj,QF,hi]
 rw[hj] at h64 hv hh hg ⊢;simp only[between,Q7,decide_eq_true_eq] at hbt;clear hr hc hj hi;unfold zAg at ho;unfold ownDo;by_cases eASK:(⟨#[65,83,75]⟩:ByteArray)=s
 ·rw[if_pos eASK] at ho ⊢;cases ho;obtain rfl:n=1:=by omega
  match vs,ha,h64,hv with
  | [v],_,h64,hv =>
    have h6:=h64 v (by simp);have he:=hv v (by simp);exact hh 144 (fun _ _=>rfl) hD _ fun w' g c' hH=>funcs_ask v g c' w'
 rw[if_neg eASK] at ho ⊢;by_cases eCHOOSE:(⟨#[67,72,79,79,83,69]⟩:ByteArray)=s
 ·rw[if_pos eCHOOSE] at ho ⊢;cases ho
  match vs,ha,h64 with
  | [],ha,_=>exact absurd (show (0:Nat)=n from ha) (by omega)
  | v::vs,ha,h64 =>
    have h6:=h64 v (by simp);obtain rfl:n=vs.length+1:=by rw[<- ha];rfl
    exact hh 143 (fun _ _=>rfl) hD _ fun w' g c' hH=>funcs_choose v vs h6.1 h6.2 g c' (by omega) w' hH
 rw[if_neg eCHOOSE] at ho ⊢;by_cases eERR:(⟨#[69,82,82]⟩:ByteArray)=s
 ·rw[if_pos eERR] at ho ⊢;cases ho;obtain rfl:n=1:=by omega
  match vs,ha,h64,hv with
  | [v],_,h64,hv =>
    have h6:=h64 v (by simp);have he:=hv v (by simp);exact hh 142 (fun _ _=>rfl) hD _ fun w' g c' hH=>funcs_fault v h6.1 h6.2 g c' w' hH
 rw[if_neg eERR] at ho ⊢;by_cases eERRNO:(⟨#[69,82,82,78,79]⟩:ByteArray)=s
 ·rw[if_pos eERRNO] at ho ⊢;cases ho;obtain rfl:n=1:=by omega
  match vs,ha,h64,hv with
  | [v],_,h64,hv =>
    have h6:=h64 v (by simp);have he:=hv v (by simp);exact hh 141 (fun _ _=>rfl) hD _ fun w' g c' hH=>funcs_errno v (fun h=>by have:=may_faultT he h;simp[isCode];omega) g c' w' hH
 rw[if_neg eERRNO] at ho ⊢;by_cases eTYPE:(⟨#[84,89,80,69]⟩:ByteArray)=s
 ·rw[if_pos eTYPE] at ho ⊢;cases ho;obtain rfl:n=1:=by omega
  match vs,ha,h64,hv with
  | [v],_,h64,hv =>
    have h6:=h64 v (by simp);have he:=hv v (by simp);exact hh 139 (fun _ _=>rfl) hD _ fun w' g c' hH=>funcs_type v (may_tag he).1 (may_tag he).2 g c' w' hH
 rw[if_neg eTYPE] at ho ⊢;by_cases eISBOOL:(⟨#[73,83,66,79,79,76]⟩:ByteArray)=s
 ·rw[if_pos eISBOOL] at ho ⊢;cases ho;obtain⟨p,hf,hp,_⟩:=hD;obtain rfl:n=1:=by omega
  match vs,ha,h64,hv with
  | [v],_,h64,hv =>
    have h6:=h64 v (by simp);have he:=hv v (by simp);exact hg 182 p (fun _ _=>rfl) hf _ fun w' g c' hb' hH=>funcs_is1 3 v p g c' w' ((zAr hb').cell _ _ _ hp) hH
 rw[if_neg eISBOOL] at ho ⊢;by_cases eISTEXT:(⟨#[73,83,84,69,88,84]⟩:ByteArray)=s
 ·rw[if_pos eISTEXT] at ho ⊢;cases ho;obtain⟨p,hf,hp,_⟩:=hD;obtain rfl:n=1:=by omega
  match vs,ha,h64,hv with
  | [v],_,h64,hv =>
    have h6:=h64 v (by simp);have he:=hv v (by simp);exact hg 182 p (fun _ _=>rfl) hf _ fun w' g c' hb' hH=>funcs_is1 2 v p g c' w' ((zAr hb').cell _ _ _ hp) hH
 rw[if_neg eISTEXT] at ho ⊢;by_cases eISNUM:(⟨#[73,83,78,85,77]⟩:ByteArray)=s
 ·rw[if_pos eISNUM] at ho ⊢;cases ho;obtain⟨p,hf,hp,_⟩:=hD;obtain rfl:n=1:=by omega
  match vs,ha,h64,hv with
  | [v],_,h64,hv =>
    have h6:=h64 v (by simp);have he:=hv v (by simp);exact hg 182 p (fun _ _=>rfl) hf _ fun w' g c' hb' hH=>funcs_is1 1 v p g c' w' ((zAr hb').cell _ _ _ hp) hH
 rw[if_neg eISNUM] at ho ⊢;by_cases eISBLANK:(⟨#[73,83,66,76,65,78,75]⟩:ByteArray)=s
 ·rw[if_pos eISBLANK] at ho ⊢;cases ho;obtain⟨p,hf,hp,_⟩:=hD;obtain rfl:n=1:=by omega
  match vs,ha,h64,hv with
  | [v],_,h64,hv =>
    have h6:=h64 v (by simp);have he:=hv v (by simp);exact hg 182 p (fun _ _=>rfl) hf _ fun w' g c' hb' hH=>funcs_is1 0 v p g c' w' ((zAr hb').cell _ _ _ hp) hH
 rw[if_neg eISBLANK] at ho ⊢;by_cases eISERR:(⟨#[73,83,69,82,82]⟩:ByteArray)=s
 ·rw[if_pos eISERR] at ho ⊢;cases ho;obtain⟨p,hf,hp,_⟩:=hD;obtain rfl:n=1:=by omega
  match vs,ha,h64,hv with
  | [v],_,h64,hv =>
    have h6:=h64 v (by simp);have he:=hv v (by simp);exact hg 182 p (fun _ _=>rfl) hf _ fun w' g c' hb' hH=>funcs_is1 4 v p g c' w' ((zAr hb').cell _ _ _ hp) hH
 rw[if_neg eISERR] at ho ⊢;by_cases eIFERR:(⟨#[73,70,69,82,82]⟩:ByteArray)=s
 ·rw[if_pos eIFERR] at ho ⊢;cases ho;obtain rfl:n=2:=by omega
  match vs,ha with
  | [u,v],_=>exact hh 137 (fun _ _=>rfl) hD _ fun w' g c' hH=>funcs_iferr u v g c' w' hH
 rw[if_neg eIFERR] at ho ⊢;by_cases eNOT:(⟨#[78,79,84]⟩:ByteArray)=s
 ·rw[if_pos eNOT] at ho ⊢;cases ho;obtain⟨p,hf,hp⟩:=hD;exact hg 179 p (fun _ _=>rfl) hf _ fun w' g c' hb' hH=>funcs_truthsV 136 fyNot (fun _ _=>rfl) (fun a b w h hb=>own4_ok a b w h hb) vs p g n c' w' ha hm h0 ((zAr hb').cell _ _ _ hp) hH
 rw[if_neg eNOT] at ho ⊢;by_cases eXOR:(⟨#[88,79,82]⟩:ByteArray)=s
 ·rw[if_pos eXOR] at ho ⊢;cases ho;obtain⟨p,hf,hp⟩:=hD;exact hg 179 p (fun _ _=>rfl) hf _ fun w' g c' hb' hH=>funcs_truthsV 135 fyXor (fun _ _=>rfl) (fun a b w h hb=>own3_ok a b w h hb) vs p g n c' w' ha hm h0 ((zAr hb').cell _ _ _ hp) hH
 rw[if_neg eXOR] at ho ⊢;by_cases eOR:(⟨#[79,82]⟩:ByteArray)=s
 ·rw[if_pos eOR] at ho ⊢;cases ho;obtain⟨p,hf,hp⟩:=hD;exact hg 179 p (fun _ _=>rfl) hf _ fun w' g c' hb' hH=>funcs_truthsV 134 fyOr (fun _ _=>rfl) (fun a b w h hb=>own2_ok a b w h hb) vs p g n c' w' ha hm h0 ((zAr hb').cell _ _ _ hp) hH
 rw[if_neg eOR] at ho ⊢;by_cases eAND:(⟨#[65,78,68]⟩:ByteArray)=s
 ·rw[if_pos eAND] at ho ⊢;cases ho;obtain⟨p,hf,hp⟩:=hD;exact hg 179 p (fun _ _=>rfl) hf _ fun w' g c' hb' hH=>funcs_truthsV 133 fyAnd (fun _ _=>rfl) (fun a b w h hb=>own1_ok a b w h hb) vs p g n c' w' ha hm h0 ((zAr hb').cell _ _ _ hp) hH
 rw[if_neg eAND] at ho ⊢;by_cases eIF:(⟨#[73,70]⟩:ByteArray)=s
 ·rw[if_pos eIF] at ho ⊢;cases ho;obtain rfl|rfl:n=2∨n=3:=by omega
  ·match vs,ha with
   | [u,v],_=>exact hh 131 (fun _ _=>rfl) hD _ fun w' g c' hH=>funcs_choice2 u v g c' w' hH
  ·match vs,ha with
   | [t,u,v],_=>exact hh 131 (fun _ _=>rfl) hD _ fun w' g c' hH=>funcs_choice3 t u v g c' w' hH
 rw[if_neg eIF] at ho ⊢;cases ho
def callX (ok:Nat->Bool) (s:ByteArray) (xs:List Arg) (r:V):V:=if (QB xs.length).all ok&&zBK s (xs.map Arg.many) then r else errG 8
def funL (pb pn:Nat):Obj:=.cells #[.func (.func 83) #[] #[.pointer (some ⟨pb,0,none⟩),.pointer (some ⟨pn,0,none⟩)],.func (.func 84) #[] #[.pointer (some ⟨pb,0,none⟩),.pointer (some ⟨pn,0,none⟩)]] 58
def funZ:Obj:=.cells #[.nilFunc,.nilFunc] 58
theorem ent_lay {s:ByteArray} {fn fn1:Fn} {first cap first1 cap1:Array Value} {w:World} {i:Nat} (h:EntE w s (.agg #[.func fn first cap,.func fn1 first1 cap1])) (hl:layOf s=some i) :
  ∃ pb pn,fn=.func 83/\first= #[]/\cap= #[.pointer (some ⟨pb,0,none⟩),.pointer (some ⟨pn,0,none⟩)]/\fn1=.func 84/\first1= #[]/\cap1= #[.pointer (some ⟨pb,0,none⟩),.pointer (some ⟨pn,0,none⟩)] /\
    w.cell? ⟨pb,1,none⟩=some (.func (.func (layFn i 1)) #[] #[])/\w.cell? ⟨pb,2,none⟩=some (.func (.func (layFn i 2)) #[] #[])/\w.cell? ⟨pn,0,none⟩=some (.string s):=by
 rcases h with ⟨x,y,d,e1,_⟩|⟨j,e1,pb,pn,ev,h0,h1,h2,h3⟩
 ·rw[own_lay s e1] at hl;cases hl
 ·rw[e1] at hl;cases hl;injection ev with ev;cases ev;exact⟨pb,pn,rfl,rfl,rfl,rfl,rfl,rfl,h1,h2,h3⟩
theorem layFn_in (i j:Nat) (args:Array Value) (w:World):Sem.run prog (callFunc (layFn i j) args) w=.ok (.enter (layFn i j) args) w:=by
 unfold layFn
 repeat' split
 all_goals rfl
theorem made2 (pb pn i:Nat) (s:ByteArray) (A:Option Addr) (n c:Nat) (tx:Int) (r:V) (w:World) (h1:w.cell? ⟨pb,2,none⟩=some (.func (.func (layFn i 2)) #[] #[])) (h2:w.cell? ⟨pn,0,none⟩=some (.string s))
  (hdo:∀ w',Below w.heap.size w w'->Calls prog (layFn i 2) #[.string s,.slice A n c,.int .i64 tx] w' fun e w''=>e=.returned (vG r)/\Below w'.heap.size w' w'') :
  Rt 84 #[.slice A n c,.int .i64 tx,.pointer (some ⟨pb,0,none⟩),.pointer (some ⟨pn,0,none⟩)] w (vG r):=by
 have hk:=layFn_in i 2;have HD:=zh hdo
 have hb1:=Q3 w _ h1;have hb2:=Q3 w _ h2;obtain⟨k,ha⟩:=lt_ (layFn i 2);rw[ha] at hk h1 HD;clear hdo ha;go_enter func84,ntmps84;go_wp2_with(with_reducible refine Calls.mono (HD.out _ bel) ?_;rintro e w1 ⟨rfl,hb⟩;obtain⟨l,q,rfl⟩:=zA0 hb;clear hb)
 all_goals(go_returns;exact rb_)
theorem table_callOwn (b:Nat) (tx:Int) (s:ByteArray) (x y:Int) (d:Doer) (ho:zAg s=some (x,y,d)) (ok:Nat->Bool) (xs:List Arg) (A:Option Addr) (n c B:Nat) (w:World) (h:Ready w b) (hr:Reads w B 11 A n (zAY xs)) (hm:n<=1000000000000)
  (hmay:∀ j a,xs[j]? =some a->∀ w',Below w.heap.size w w'->Rt 12 #[a.agg] w' (.bool (ok j))) (r:V)
  (hdo:∀ w' pd f,Below w.heap.size w w'->w'.cell? ⟨pd,0,none⟩=some f->DoOK w' f d->between x y n=true->(∀ j,j<n->ok j=true)->Rt 176 #[.slice A n c,.int .i64 tx,.pointer (some ⟨pd,0,none⟩)] w' (vG r)) :
  Rt 6 #[.pointer (some ⟨b,0,none⟩),.string s,.slice A n c,.int .i64 tx] w (vG (callX ok s xs r)):=by
 have hD:=zh (show D1 50 s=true by simp[D1,own_known s ho]);have hbl:=h.lt;have hh:xs.length=n:=by
  have:=hr.1;rw[zAN] at this;omega
 obtain⟨cs,hz⟩:∃ cs,cs=(xs.map Arg.many).map Value.bool:=⟨_,rfl⟩
 have hcl:cs.length=n:=by rw[hz];simp[hh]
 have hT:∀ (j:Nat) (x:Arg),xs[j]? =some x->cs[j]? =some (.bool x.many):=fun j x hx=>by rw[hz,Q5,Q5,hx];rfl
 have hJ:=zh hT;have hX:=zh hz;obtain⟨okN,hF,ht,hw⟩:∃ okN:Nat->Bool,okN 0=true/\(∀ j,okN (j+1)=(okN j&&ok j))/\okN n=(QB xs.length).all ok:=⟨fun j=>(QB j).all ok,rfl,fun j=>by simp only;rw[QG,QH];simp,by rw[hh]⟩
 have Hb:=zh ht;have hK:=zh hw;have HM:=zh hmay;have HR:=zh hr;obtain⟨d0,m,hd,h0,h3,hM⟩:=h;have Ha:=zh hM;have Hi:=zh hd;have hml:=hM.lt;have hy:=zh hdo
 clear hT ht hw hz hmay hdo hr hM hd;obtain⟨i0,hi,hU,hV,hW⟩:=info_parts info_B;go_enter func6,ntmps6;go_wp2_with(first|(go_at_call 11;refine mB (table_allR b _ d0 m Hi.out (by go_simp) (by go_simp)) ?_;intro l q)|(at_lookup;refine wpList_lookI (Ha.out.below bel) _ _ rfl rfl rfl _ rfl ?_ ?_))
 ·intro fn first cap fn1 first1 cap1 hv
  obtain⟨pl,pm,pd,f,rfl,rfl,rfl,rfl,rfl,rfl,h1,h2,h3,h4⟩:=ent_own hv.out.1 ho;clear hv;go_wp2
  go_loopw [23,10,11] (fun t o v wr=>∃ j:Nat,j<=n/\t=.int .i64 j/\o=.bool (okN j)/\zAA ((more (w.alloc zeroV) l q).alloc (funO pl pm pd)) wr 4 1 v j (cs.take j)) (fun t _ _ _=>n-(intOf t).toNat)
  case atStart=>exact⟨0,QD _,rfl,by rw[hF],Below.refl _ _,QE _ _ _ _⟩
  case round =>
   obtain⟨j,hj,rfl,rfl,hR⟩:=hrel;have hG:Below w.heap.size w ((more (w.alloc zeroV) l q).alloc (funO pl pm pd)):=bel;have hA:Below w.heap.size w wr:=hG.trans (hR.1.mono hG.size);have hws:=hA.size;by_cases hlt:j<n
   ·obtain⟨a,ha⟩:∃ a,xs[j]? =some a:=⟨_,Q4 (show j<xs.length by omega)⟩
    obtain⟨bk,off,rfl,_,hc⟩:=HR.out.2 (by omega);have hg:∀ i u,a.cells[i]? =some u->wr.cell? ⟨bk,off+(j*11+i),none⟩=some u:=fun i u hu=>by
     have h1:=hc _ u (zAP xs j a ha i u hu);exact(hA.cell (p:=⟨bk,_,none⟩) (Q3 w _ h1)).trans h1
    obtain⟨c0,c1,c2,c3,c4,c5,c6,c7,c8,c9,c10⟩:=tkB hg;simp only[<- QI,QJ] at c0 c1 c2 c3 c4 c5 c6 c7 c8 c9 c10;have HG:=zh hR;have hI:=zh ha;have hZ:=zh (HM.out j a ha);clear hg hR hc ha;clear h1 h2 h3 h4 h0 hG;have hl:=Hb.out j;cases hokj:okN j
    ·rw[hokj] at hl;have HJ:=zh hl;clear hokj hl;go_wp2_with(at_builtin;refine wpList_append_own _ rfl _ _ 61 rfl ((more (w.alloc zeroV) l q).alloc (funO pl pm pd)).heap.size 4 i0 _ 1 1 underlying61 hi hU hV hW rfl (by decide) _ _ _ rfl (own_below HG.out.2 bel) _ 1 1 [.bool a.many] rfl rfl ?_ ?_ ?_ ?_ ?_ ?_)
     ·first|exact fun i u hu=>zAO (by simp) i u hu|exact fun i u hu=>hu
     ·intro u hu;simp only[QC,Q8,or_false] at hu;subst hu
      rfl
     ·simp only[maxLen];omega
     ·omega
     ·have h1:=HG.out.1.size;simp at h1 ⊢;omega
     ·intro v' w3 hf he _;have R:=zAA.step HG.out bel (show w3.ownsRow ((more (w.alloc zeroV) l q).alloc (funO pl pm pd)).heap.size 4 1 v' (j+1) (cs.take j++[.bool a.many]) from by simpa using hf) he;rw[<- zAJ (hJ.out j a hI.out)] at R;have hC:=zh R;clear hf he R HG c0 c1 c2 c3 c4 c5 c6 c7 c8 c9 c10 hA;go_wp2;go_roundw;case rel=>exact⟨j+1,by omega,by go_num,by rw[HJ.out];rfl,hC.out⟩
      case measure=>simp[intOf];omega
    ·rw[hokj] at hl;have HJ:=zh hl;clear hokj hl;go_wp2_with(first|(go_at_call 12;refine mB (hZ.out _ bel) ?_;intro l2 q2)|(at_builtin;refine wpList_append_own _ rfl _ _ 61 rfl ((more (w.alloc zeroV) l q).alloc (funO pl pm pd)).heap.size 4 i0 _ 1 1 underlying61 hi hU hV hW rfl (by decide) _ _ _ rfl (own_below HG.out.2 bel) _ 1 1 [.bool a.many] rfl rfl ?_ ?_ ?_ ?_ ?_ ?_))
     ·first|exact fun i u hu=>zAO (by simp) i u hu|exact fun i u hu=>hu
     ·intro u hu;simp only[QC,Q8,or_false] at hu;subst hu
      rfl
     ·simp only[maxLen];omega
     ·omega
     ·have h1:=HG.out.1.size;simp at h1 ⊢;omega
     ·intro v' w3 hf he _;have R:=zAA.step HG.out bel (show w3.ownsRow ((more (w.alloc zeroV) l q).alloc (funO pl pm pd)).heap.size 4 1 v' (j+1) (cs.take j++[.bool a.many]) from by simpa using hf) he;rw[<- zAJ (hJ.out j a hI.out)] at R;have hC:=zh R;clear hf he R HG c0 c1 c2 c3 c4 c5 c6 c7 c8 c9 c10 hA;go_wp2;go_roundw;case rel=>exact⟨j+1,by omega,by go_num,by rw[HJ.out];simp,hC.out⟩
      case measure=>simp[intOf];omega
   obtain rfl:j=n:=by omega
   rw[QA (by omega)] at hR;obtain⟨hB,hO⟩:=hR;have hs:Keeps (more (w.alloc zeroV) l q) wr:=Keeps.trans kps (zAr hB);have hL:=hs.cell _ _ _ h1;have hN:=hs.cell _ _ _ h2;have hP:=hs.cell _ _ _ h3;have hQ:=h4.keeps hs;have Hd:=zh hL;have He:=zh hN;have Hc:=zh hP;have hE:=zh hQ;have hpd:=Q3 _ _ hP;obtain⟨xsB,hH⟩:∃ xsB,xsB=xs.map Arg.many:=⟨_,rfl⟩
   rw[hX.out,<-hH] at hO;obtain⟨A',c',rfl⟩:=own_sliceC hO;have Hf:=zh (Reads.zAC hO);have Hh:xsB.length=j:=by rw[hH,QF,hh]
   have hp:zBK s (xs.map Arg.many)=(between x y j&& !zAU xsB):=by rw[<- hH];simp[zBK,ho,Hh]
   obtain⟨l2,q2,rfl⟩:=zA0 hB;clear h1 h2 h3 h4 hL hN hQ hs hO h0 hB;unfold zeroV funO at *;cases hokj:okN j;have e:callX ok s xs r=errG 8:=by
    have h1:=hK.out;rw[hokj] at h1;simp[callX,<-h1]
   have E:=zh e;clear e hy hokj hp
   rotate_left
   have h1:=hK.out;rw[hokj] at h1;obtain⟨tk,hn⟩:=lt_ (between x y j&& !zAU xsB);have Hg:=zh hn;rw[hn] at hp;cases tk;have e:callX ok s xs r=errG 8:=by simp[callX,hp]
   have E:=zh e;clear e hy h1 hp hn hokj
   rotate_left
   have e:callX ok s xs r=r:=by simp[callX,hp,<-h1]
   have E:=zh e;have hS:between x y j=true:=by
    cases h2:between x y j
    ·rw[h2] at hn;cases hn
    ·rfl
   have hq:∀ k,k<j->ok k=true:=fun k hk=>List.all_eq_true.1 h1.symm k (List.mem_range.2 (by omega));have hY:=zh (fun w' pd f h2 h3 h4=>hy.out w' pd f h2 h3 h4 hS hq);clear e hy h1 hp hS hn hokj hq;all_goals
    go_wp2_with(first|(go_at_call 13;refine mB (zA3 _ _) ?_;intro l3 q3)|(go_at_call 175;refine(singles1 pl pm x y A' j c' xsB _ _ (Hd.out) (He.out) Hf.out (by omega)).mono ?_;rintro e w4 ⟨rfl,hb⟩;rw[Hg.out];obtain⟨l4,q4,rfl⟩:=zA0 hb;clear hb)|(go_at_call 176;refine Calls.mono (hY.out _ pd f ?_ ?_ ?_) ?_;(exact bel);(rw[<- zAQ (l:=l2) (n:=q2)];exact(keeps_more (keeps_refl _) _ _).cell _ _ _ Hc.out);(rw[<- zAQ (l:=l2) (n:=q2)];exact hE.out.keeps (keeps_more (keeps_refl _) _ _));rintro e w5 ⟨rfl,hb⟩;obtain⟨l5,q5,rfl⟩:=zA0 hb;clear hb))
    all_goals(go_returns;exact⟨by rw[E.out],bel⟩)
 ·intro hv;have h1:=hv.out;rw[hD.out] at h1;cases h1
theorem table_callLay (b:Nat) (tx:Int) (s:ByteArray) (i:Nat) (hl:layOf s=some i) (ok:Nat->Bool) (xs:List Arg) (A:Option Addr) (n c B:Nat) (w:World) (h:Ready w b) (hr:Reads w B 11 A n (zAY xs)) (hm:n<=1000000000000)
  (hmay:∀ j a,xs[j]? =some a->∀ w',Below w.heap.size w w'->Rt 12 #[a.agg] w' (.bool (ok j))) (r:V)
  (hdo:∀ w',Below w.heap.size w w'->Calls prog (layFn i 2) #[.string s,.slice A n c,.int .i64 tx] w' fun e w''=>e=.returned (vG r)/\Below w'.heap.size w' w'') :
  Rt 6 #[.pointer (some ⟨b,0,none⟩),.string s,.slice A n c,.int .i64 tx] w (vG (callX ok s xs r)):=by
 have hD:=zh (show D1 50 s=true by simp[D1,lay_known s hl]);have Ha:zAg s=none:=by
  cases ho:zAg s with
  | none=>rfl
  | some q=>rw[own_lay s ho] at hl;cases hl
 have hbl:=h.lt;have hh:xs.length=n:=by
  have:=hr.1;rw[zAN] at this;omega
 obtain⟨cs,hs⟩:∃ cs,cs=(xs.map Arg.many).map Value.bool:=⟨_,rfl⟩
 have hcl:cs.length=n:=by rw[hs];simp[hh]
 have hL:∀ (j:Nat) (x:Arg),xs[j]? =some x->cs[j]? =some (.bool x.many):=fun j x hx=>by rw[hs,Q5,Q5,hx];rfl
 have hI:=zh hL;have hS:=zh hs;obtain⟨okN,hE,hp,hq⟩:∃ okN:Nat->Bool,okN 0=true/\(∀ j,okN (j+1)=(okN j&&ok j))/\okN n=(QB xs.length).all ok:=⟨fun j=>(QB j).all ok,rfl,fun j=>by simp only;rw[QG,QH];simp,by rw[hh]⟩
 have hV:=zh hp;have hJ:=zh hq;have HM:=zh hmay;have HR:=zh hr;obtain⟨d0,m,hd,h0,h3,hM⟩:=h;have hU:=zh hM;have hZ:=zh hd;have hml:=hM.lt;have hz:=zh hdo
 clear hL hp hq hs hmay hdo hr hM hd;obtain⟨i0,hi,hN,hP,hQ⟩:=info_parts info_B;go_enter func6,ntmps6;go_wp2_with(first|(go_at_call 11;refine mB (table_allR b _ d0 m hZ.out (by go_simp) (by go_simp)) ?_;intro l q)|(at_lookup;refine wpList_lookI (hU.out.below bel) _ _ rfl rfl rfl _ rfl ?_ ?_))
 ·intro fn first cap fn1 first1 cap1 hv
  obtain⟨pb,pn,rfl,rfl,rfl,rfl,rfl,rfl,h1,h2,h3⟩:=ent_lay hv.out.1 hl;clear hv;go_wp2
  go_loopw [23,10,11] (fun t o v wr=>∃ j:Nat,j<=n/\t=.int .i64 j/\o=.bool (okN j)/\zAA ((more (w.alloc zeroV) l q).alloc (funL pb pn)) wr 4 1 v j (cs.take j)) (fun t _ _ _=>n-(intOf t).toNat)
  case atStart=>exact⟨0,QD _,rfl,by rw[hE],Below.refl _ _,QE _ _ _ _⟩
  case round =>
   obtain⟨j,hj,rfl,rfl,hR⟩:=hrel;have hF:Below w.heap.size w ((more (w.alloc zeroV) l q).alloc (funL pb pn)):=bel;have hy:Below w.heap.size w wr:=hF.trans (hR.1.mono hF.size);have hws:=hy.size;by_cases hlt:j<n
   ·obtain⟨a,ha⟩:∃ a,xs[j]? =some a:=⟨_,Q4 (show j<xs.length by omega)⟩
    obtain⟨bk,off,rfl,_,hc⟩:=HR.out.2 (by omega);have hg:∀ i u,a.cells[i]? =some u->wr.cell? ⟨bk,off+(j*11+i),none⟩=some u:=fun i u hu=>by
     have h1:=hc _ u (zAP xs j a ha i u hu);exact(hy.cell (p:=⟨bk,_,none⟩) (Q3 w _ h1)).trans h1
    obtain⟨c0,c1,c2,c3,c4,c5,c6,c7,c8,c9,c10⟩:=tkB hg;simp only[<- QI,QJ] at c0 c1 c2 c3 c4 c5 c6 c7 c8 c9 c10;have HG:=zh hR;have hH:=zh ha;have hT:=zh (HM.out j a ha);clear hg hR hc ha;clear h1 h2 h3 h0 hF;have hk:=hV.out j;cases hokj:okN j
    ·rw[hokj] at hk;have HJ:=zh hk;clear hokj hk;go_wp2_with(at_builtin;refine wpList_append_own _ rfl _ _ 61 rfl ((more (w.alloc zeroV) l q).alloc (funL pb pn)).heap.size 4 i0 _ 1 1 underlying61 hi hN hP hQ rfl (by decide) _ _ _ rfl (own_below HG.out.2 bel) _ 1 1 [.bool a.many] rfl rfl ?_ ?_ ?_ ?_ ?_ ?_)
     ·first|exact fun i u hu=>zAO (by simp) i u hu|exact fun i u hu=>hu
     ·intro u hu;simp only[QC,Q8,or_false] at hu;subst hu
      rfl
     ·simp only[maxLen];omega
     ·omega
     ·have h1:=HG.out.1.size;simp at h1 ⊢;omega
     ·intro v' w3 hf he _;have R:=zAA.step HG.out bel (show w3.ownsRow ((more (w.alloc zeroV) l q).alloc (funL pb pn)).heap.size 4 1 v' (j+1) (cs.take j++[.bool a.many]) from by simpa using hf) he;rw[<- zAJ (hI.out j a hH.out)] at R;have hA:=zh R;clear hf he R HG c0 c1 c2 c3 c4 c5 c6 c7 c8 c9 c10 hy;go_wp2;go_roundw;case rel=>exact⟨j+1,by omega,by go_num,by rw[HJ.out];rfl,hA.out⟩
      case measure=>simp[intOf];omega
    ·rw[hokj] at hk;have HJ:=zh hk;clear hokj hk;go_wp2_with(first|(go_at_call 12;refine mB (hT.out _ bel) ?_;intro l2 q2)|(at_builtin;refine wpList_append_own _ rfl _ _ 61 rfl ((more (w.alloc zeroV) l q).alloc (funL pb pn)).heap.size 4 i0 _ 1 1 underlying61 hi hN hP hQ rfl (by decide) _ _ _ rfl (own_below HG.out.2 bel) _ 1 1 [.bool a.many] rfl rfl ?_ ?_ ?_ ?_ ?_ ?_))
     ·first|exact fun i u hu=>zAO (by simp) i u hu|exact fun i u hu=>hu
     ·intro u hu;simp only[QC,Q8,or_false] at hu;subst hu
      rfl
     ·simp only[maxLen];omega
     ·omega
     ·have h1:=HG.out.1.size;simp at h1 ⊢;omega
     ·intro v' w3 hf he _;have R:=zAA.step HG.out bel (show w3.ownsRow ((more (w.alloc zeroV) l q).alloc (funL pb pn)).heap.size 4 1 v' (j+1) (cs.take j++[.bool a.many]) from by simpa using hf) he;rw[<- zAJ (hI.out j a hH.out)] at R;have hA:=zh R;clear hf he R HG c0 c1 c2 c3 c4 c5 c6 c7 c8 c9 c10 hy;go_wp2;go_roundw;case rel=>exact⟨j+1,by omega,by go_num,by rw[HJ.out];simp,hA.out⟩
      case measure=>simp[intOf];omega
   obtain rfl:j=n:=by omega
   rw[QA (by omega)] at hR;obtain⟨hB,hO⟩:=hR;have ht:Keeps (more (w.alloc zeroV) l q) wr:=Keeps.trans kps (zAr hB);have hW:=zh (ht.cell _ _ _ h1);have hK:=zh (ht.cell _ _ _ h2);have hC:=zh (ht.cell _ _ _ h3);have hpd:=Q3 _ _ hK.out;have hpn:=Q3 _ _ hC.out;obtain⟨xsB,hG⟩:∃ xsB,xsB=xs.map Arg.many:=⟨_,rfl⟩
   rw[hS.out,<-hG] at hO;obtain⟨A',c',rfl⟩:=own_sliceC hO;have hX:=zh (Reads.zAC hO);have hbn:xsB.length=j:=by rw[hG,QF,hh]
   have hn:zBK s (xs.map Arg.many)=layTakes i s xsB:=by rw[<- hG];simp[zBK,Ha,hl]
   obtain⟨l2,q2,rfl⟩:=zA0 hB;clear h1 h2 h3 ht hO h0 hB;unfold zeroV funL at *;cases hokj:okN j;have e:callX ok s xs r=errG 8:=by
    have h1:=hJ.out;rw[hokj] at h1;simp[callX,<-h1]
   have E:=zh e;clear e hz hokj hn
   rotate_left
   have h1:=hJ.out;rw[hokj] at h1;obtain⟨tk,hw⟩:=lt_ (layTakes i s xsB);have hY:=zh hw;rw[hw] at hn;cases tk;have e:callX ok s xs r=errG 8:=by simp[callX,hn]
   have E:=zh e;clear e hz h1 hn hw hokj
   rotate_left
   have e:callX ok s xs r=r:=by simp[callX,hn,<-h1]
   have E:=zh e;clear e h1 hn hw hokj;all_goals
    go_wp2_with(first|(go_at_call 13;refine mB (zA3 _ _) ?_;intro l3 q3)|(go_at_call 83;refine(made1 pb pn i s A' j c' xsB _ _ (hW.out) (hC.out) hX.out (by omega)).mono ?_;rintro e w4 ⟨rfl,hb⟩;rw[hY.out];obtain⟨l4,q4,rfl⟩:=zA0 hb;clear hb)|(go_at_call 84;refine Calls.mono (made2 pb pn i s A j c tx r _ ?_ ?_ (fun w' hw'=>hz.out w' ((show Below w.heap.size w _ from bel).trans (hw'.mono (show Below w.heap.size w _ from bel).size)))) ?_;(rw[<- zAQ (l:=l2) (n:=q2)];exact(keeps_more (keeps_refl _) _ _).cell _ _ _ hK.out);(rw[<- zAQ (l:=l2) (n:=q2)];exact(keeps_more (keeps_refl _) _ _).cell _ _ _ hC.out);rintro e w5 ⟨rfl,hb⟩;obtain⟨l5,q5,rfl⟩:=zA0 hb;clear hb))
    all_goals(go_returns;exact⟨by rw[E.out],bel⟩)
 ·intro hv;have h1:=hv.out;rw[hD.out] at h1;cases h1
theorem table_callNone (b:Nat) (tx:Int) (s:ByteArray) (hD0:D1 50 s=false) (ok:Nat->Bool) (xs:List Arg) (A:Option Addr) (n c B:Nat) (w:World) (h:Ready w b) (hr:Reads w B 11 A n (zAY xs)) (hm:n<=1000000000000)
  (hmay:∀ j a,xs[j]? =some a->∀ w',Below w.heap.size w w'->Rt 12 #[a.agg] w' (.bool (ok j))) :
  Rt 6 #[.pointer (some ⟨b,0,none⟩),.string s,.slice A n c,.int .i64 tx] w (vG (errG 8)):=by
 have hD:=zh hD0;have hbl:=h.lt;have hg:xs.length=n:=by
  have:=hr.1;rw[zAN] at this;omega
 obtain⟨cs,hl⟩:∃ cs,cs=(xs.map Arg.many).map Value.bool:=⟨_,rfl⟩
 have hcl:cs.length=n:=by rw[hl];simp[hg]
 have hp:∀ (j:Nat) (x:Arg),xs[j]? =some x->cs[j]? =some (.bool x.many):=fun j x hx=>by rw[hl,Q5,Q5,hx];rfl
 have hs:=zh hp;have HCS:=zh hl;obtain⟨okN,hz,hh,hk⟩:∃ okN:Nat->Bool,okN 0=true/\(∀ j,okN (j+1)=(okN j&&ok j))/\okN n=(QB xs.length).all ok:=⟨fun j=>(QB j).all ok,rfl,fun j=>by simp only;rw[QG,QH];simp,by rw[hg]⟩
 have HOK:=zh hh;have HON:=zh hk;have HM:=zh hmay;have HR:=zh hr;obtain⟨d0,m,hd,h0,h3,hM⟩:=h;have hw:=zh hM;have hy:=zh hd;have hml:=hM.lt;clear hp hh hk hl hmay hr hM hd hD0;obtain⟨i0,hi,hA,hC,hE⟩:=info_parts info_B;go_enter func6,ntmps6;go_wp2_with(first|(go_at_call 11;refine mB (table_allR b _ d0 m hy.out (by go_simp) (by go_simp)) ?_;intro l q)|(at_lookup;refine wpList_lookI (hw.out.below bel) _ _ rfl rfl rfl _ rfl ?_ ?_))
 ·intro fn first cap fn1 first1 cap1 hv
  have h1:=hv.out.2;rw[hD.out] at h1;cases h1
 ·go_loopw [23,10,11] (fun t o v wr=>∃ j:Nat,j<=n/\t=.int .i64 j/\o=.bool false/\zAA ((more (w.alloc zeroV) l q).alloc funZ) wr 4 1 v j (cs.take j)) (fun t _ _ _=>n-(intOf t).toNat)
  case atStart=>exact⟨0,QD _,rfl,rfl,Below.refl _ _,QE _ _ _ _⟩
  case round =>
   obtain⟨j,hj,rfl,rfl,hR⟩:=hrel;have hn:Below w.heap.size w ((more (w.alloc zeroV) l q).alloc funZ):=bel;have ho:Below w.heap.size w wr:=hn.trans (hR.1.mono hn.size);have hws:=ho.size;by_cases hlt:j<n
   ·obtain⟨a,ha⟩:∃ a,xs[j]? =some a:=⟨_,Q4 (show j<xs.length by omega)⟩
    obtain⟨bk,off,rfl,_,hc⟩:=HR.out.2 (by omega);have hb:∀ i u,a.cells[i]? =some u->wr.cell? ⟨bk,off+(j*11+i),none⟩=some u:=fun i u hu=>by
     have h1:=hc _ u (zAP xs j a ha i u hu);exact(ho.cell (p:=⟨bk,_,none⟩) (Q3 w _ h1)).trans h1
    obtain⟨c0,c1,c2,c3,c4,c5,c6,c7,c8,c9,c10⟩:=tkB hb;simp only[<- QI,QJ] at c0 c1 c2 c3 c4 c5 c6 c7 c8 c9 c10;have HG:=zh hR;have hq:=zh ha;have HMH:=zh (HM.out j a ha);clear hb hR hc ha;clear  h0 hn;go_wp2_with(at_builtin;refine wpList_append_own _ rfl _ _ 61 rfl ((more (w.alloc zeroV) l q).alloc funZ).heap.size 4 i0 _ 1 1 underlying61 hi hA hC hE rfl (by decide) _ _ _ rfl (own_below HG.out.2 bel) _ 1 1 [.bool a.many] rfl rfl ?_ ?_ ?_ ?_ ?_ ?_)
    ·first|exact fun i u hu=>zAO (by simp) i u hu|exact fun i u hu=>hu
    ·intro u hu;simp only[QC,Q8,or_false] at hu;subst hu
     rfl
    ·simp only[maxLen];omega
    ·omega
    ·have h1:=HG.out.1.size;simp at h1 ⊢;omega
    ·intro v' w3 hf he _;have R:=zAA.step HG.out bel (show w3.ownsRow ((more (w.alloc zeroV) l q).alloc funZ).heap.size 4 1 v' (j+1) (cs.take j++[.bool a.many]) from by simpa using hf) he;rw[<- zAJ (hs.out j a hq.out)] at R;have ht:=zh R;clear hf he R HG c0 c1 c2 c3 c4 c5 c6 c7 c8 c9 c10 ho;go_wp2;go_roundw;case rel=>exact⟨j+1,by omega,by go_num,rfl,ht.out⟩
     case measure=>simp[intOf];omega
   ·obtain rfl:j=n:=by omega
    obtain⟨hB,hO⟩:=hR;obtain⟨l2,q2,rfl⟩:=zA0 hB;clear hO h0 hB hn ho;unfold zeroV funZ at *;go_wp2_with(go_at_call 13;refine mB (zA3 _ _) ?_;intro l3 q3)
    all_goals(go_returns;exact rb_)
def callS (s:ByteArray) (vs:List V) (r:V):V:=if vs.all mayG&&zBK s (vs.map fun _=>false) then r else errG 8
theorem callG_single (s:ByteArray) (vs:List V) (r:V):callG (fun a=>mayG a.val) s (vs.map single) r=callS s vs r:=by
 unfold callG callS;rw[List.all_map,List.map_map]
 rfl
theorem vals_single (vs:List V):(vs.map single).map Arg.val=vs:=by
 rw[List.map_map];exact List.map_id _
theorem table_KnownR (b:Nat) (s:ByteArray) (w:World) (h:Ready w b):Rt 10 #[.pointer (some ⟨b,0,none⟩),.string s] w (.bool (D1 50 s)):=by
 obtain⟨d0,m,hd,h0,h3,hM⟩:=h;have ha:=zh hM;have hml:=hM.lt;have hbl:=cell_lt h0;clear hM;go_enter func10,ntmps10;go_wp2_with(first|(go_at_call 11;refine mB (table_allR b _ d0 m hd (by go_simp) (by go_simp)) ?_;intro l q)|(at_lookup;refine wpList_lookI (ha.out.below bel) _ _ rfl rfl rfl _ rfl ?_ ?_))
 ·intro fn first cap fn1 first1 cap1 hv
  go_wp2;all_goals go_ret;all_goals exact⟨by rw[hv.out.2];rfl,bel⟩
 ·intro hv;go_wp2;all_goals go_ret;all_goals exact⟨by rw[hv.out];rfl,bel⟩
theorem law_single (v:V) (w:World):Rt 8 #[(vG v)] w (.agg #[.bool false,.int .i64 v.tag,.int .i64 v.num,.string v.str,.bool v.is,.int .i64 v.code,.int .i64 0,.int .i64 0,.int .i64 0,.int .i64 0,.slice none 0 0]):=by
 go_enter func8,ntmps8;go_wp2;all_goals(go_returns;exact rb_)
theorem law_truth (b:Bool) (w:World):Rt 9 #[.bool b] w (vG (zAa b)):=by
 go_enter func9,ntmps9;go_wp2;all_goals(go_returns;exact rb_)
theorem reads_new {W:World} {cs:Array Value} {t:TypeId} {n size g B:Nat} {xs:List Value} (hg:g=W.heap.size) (hB:g<B) (hx:xs=cs.toList) (hl:xs.length=n*size):Reads (W.alloc (.cells cs t)) B size (some ⟨g,0,none⟩) n xs:=by
 subst hg;refine⟨hl,fun _=>⟨W.heap.size,0,rfl,hB,fun j u hu=> ?_⟩⟩;rw[Nat.zero_add,cell_of_row (W.alloc (.cells cs t)) W.heap.size j cs t (0,0) (heap_alloc_new W _)];subst hx
 simpa using hu
def oneV:V:=⟨1,10000,⟨#[]⟩,false,0⟩
theorem law_single1 (w:World):Rt 8 #[.agg #[.int .i64 1,.int .i64 10000,.string ⟨#[]⟩,.bool false,.int .i64 0]] w (.agg #[.bool false,.int .i64 1,.int .i64 10000,.string ⟨#[]⟩,.bool false,.int .i64 0,.int .i64 0,.int .i64 0,.int .i64 0,.int .i64 0,.slice none 0 0]):=law_single oneV w
theorem law_single2 (w:World):Rt 8 #[.agg #[.int .i64 3,.int .i64 0,.string ⟨#[]⟩,.bool true,.int .i64 0]] w (.agg #[.bool false,.int .i64 3,.int .i64 0,.string ⟨#[]⟩,.bool true,.int .i64 0,.int .i64 0,.int .i64 0,.int .i64 0,.int .i64 0,.slice none 0 0]):=law_single (zAa true) w
theorem law_truth1 (w:World):Rt 9 #[.bool true] w (.agg #[.int .i64 3,.int .i64 0,.string ⟨#[]⟩,.bool true,.int .i64 0]):=law_truth true w
theorem call_plainF (b k:Nat) (hk:∀ (args:Array Value) (w:World),Sem.run prog (callFunc k args) w=.ok (.enter k args) w) (tx:Int) (s:ByteArray) (x y:Int) (ho:zAg s=some (x,y,.plain k)) (vs:List V) (A:Option Addr) (n c B:Nat) (w:World) (h:TabOK w b)
  (hr:Reads w B 11 A n (zAY (vs.map single))) (hap:Apart b A n) (hm:n<=1000000000000) (r:V)
  (hd:∀ w' g c',Turn b w w'->Held w' g vs->between x y n=true->vs.all mayG=true->Calls prog k #[.slice (some ⟨g,0,none⟩) n c'] w' fun e w''=>e=.returned (vG r)/\Below w'.heap.size w' w'') :
  Calls prog 6 #[.pointer (some ⟨b,0,none⟩),.string s,.slice A n c,.int .i64 tx] w fun e w'=>e=.returned (vG (callS s vs r))/\Ready w' b/\Turn b w w':=by
 rw[<- callG_single];refine table_CallOwnF b tx s x y (.plain k) ho (fun a=>mayG a.val) (vs.map single) A n c B w h hr hap hm (fun a ha w' _=> ?_) r (fun w' pd f hb hc hD hbt hall=> ?_)
 ·obtain⟨v,_,rfl⟩:=List.mem_map.1 ha;exact may_single v w'
 ·have hx:=(ownTab_lows ho).1;have h0:0<n:=by
   simp only[between,Q7,decide_eq_true_eq] at hbt;omega
  have hf:f=.func (.func k) #[] #[]:=hD;subst hf;refine gather0 pd k hk tx (vs.map single) A n c B w' hc (hr.turn hap hb) hm h0 r fun w'' g c' hb' hH=> ?_;rw[vals_single] at hH;exact hd w'' g c' (hb.trans (.of_below hb')) hH hbt (by rw[List.all_map] at hall;exact hall)
theorem known_ifF (b:Nat) (A:Option Addr) (c:Nat) (w:World) (h:TabOK w b) (hr:Reads w w.heap.size 11 A 2 (zAY ([zAa true,oneV].map single))) (hap:Apart b A 2) :
  Calls prog 6 #[.pointer (some ⟨b,0,none⟩),.string ⟨#[73,70]⟩,.slice A 2 c,.int .i64 8] w fun e w'=>e=.returned (.agg #[.int .i64 1,.int .i64 10000,.string ⟨#[]⟩,.bool false,.int .i64 0])/\Ready w' b/\Turn b w w':=by
 have h1:=call_plainF b 131 (fun _ _=>rfl) 8 ⟨#[73,70]⟩ 2 3 rfl [zAa true,oneV] A 2 c _ w h hr hap (by decide) (zAz [zAa true,oneV]) (fun w' g c' _ hH _ _=>funcs_choice2 _ _ g c' w' hH);have e:callS ⟨#[73,70]⟩ [zAa true,oneV] (zAz [zAa true,oneV])=oneV:=by decide +kernel
 rw[e] at h1;exact h1
theorem law_knownF (b:Nat) (w:World) (h:TabOK w b):Calls prog 5 #[.pointer (some ⟨b,0,none⟩)] w fun e w'=>e=.returned (.bool true)/\Ready w' b/\Turn b w w':=by
 have hq:∀ w,(binOp .eql 29 (.agg #[.int .i64 1,.int .i64 10000,.string ⟨#[]⟩,.bool false,.int .i64 0]) (.agg #[.int .i64 1,.int .i64 10000,.string ⟨#[]⟩,.bool false,.int .i64 0])).run prog w=.ok (.bool true) w:=fun w=>by rw[eqlV];simp[eqB]
 have hbl:=h.lt;have hc:w.heap.size≠b:=by omega
 go_enter func5,ntmps5;go_wp2
 go_region_held3 (fun w'=>TabOK w' b/\w'.cell? ⟨w.heap.size,0,none⟩=some (.int .i64 1)/\w'.cell? ⟨w.heap.size,1,none⟩=some (.int .i64 10000)/\w'.cell? ⟨w.heap.size,2,none⟩=some (.string ⟨#[]⟩)/\w'.cell? ⟨w.heap.size,3,none⟩=some (.bool false)/\w'.cell? ⟨w.heap.size,4,none⟩=some (.int .i64 0))
  (first|((try dsimp only[vG]);refine⟨?_,?_,?_,?_,?_,?_⟩<;>first|(refine .inl (hd.below ?_);(repeat(first|with_reducible exact Below.refl _ _|with_reducible assumption|with_reducible refine below_more' ?_ (by go_size)|with_reducible refine zBb ?_ _ (by go_size)|with_reducible refine Below.drew ?_|with_reducible refine Below.setCell ?_ (by go_size) _|with_reducible refine below_drewN ?_ _));done)|(refine h.below ?_;(repeat(first|with_reducible exact Below.refl _ _|with_reducible assumption|with_reducible refine below_more' ?_ (by go_size)|with_reducible refine zBb ?_ _ (by go_size)|with_reducible refine Below.drew ?_|with_reducible refine Below.setCell ?_ (by go_size) _|with_reducible refine below_drewN ?_ _));done)|(go_simp;done)))
  (first|(go_at_call 9;refine mB (law_truth1 _) ?_;intro l q)|(go_at_call 8;refine mB (law_single2 _) ?_;intro l q)|(go_at_call 8;refine mB (law_single1 _) ?_;intro l q)|(go_at_call 6;refine(known_ifF b _ _ _ ?_ ?_ ?_).mono ?_;(exact h.below bel);(exact reads_new (by first|(simp;done)|(simp;omega)) (by first|(simp;done)|(simp;omega)) rfl rfl);(exact fun _ p hp=>by cases hp;first|omega|(simp;omega));rintro e w5 ⟨rfl,hd,ha⟩;have z0:=ha.cell hc (i:=0) (v:=.int .i64 1) (by go_simp);have z1:=ha.cell hc (i:=1) (v:=.int .i64 10000) (by go_simp);have z2:=ha.cell hc (i:=2) (v:=.string ⟨#[]⟩) (by go_simp);have z3:=ha.cell hc (i:=3) (v:=.bool false) (by go_simp);have z4:=ha.cell hc (i:=4) (v:=.int .i64 0) (by go_simp);have hzl:=cell_lt z0;replace ha:=(show Turn b w _ from .of_below bel).trans ha)|(go_at_call 10;refine(table_KnownR b _ _ ?_).mono ?_;(exact hd.below bel);rintro e w1 ⟨rfl,hb⟩;obtain⟨l,q,rfl⟩:=zA0 hb;clear hb))
 all_goals go_wp2;all_goals go_ret;all_goals exact⟨rfl,hd.below bel,ha.trans (.of_below bel)⟩
theorem Turn.baseL {b B:Nat} {w w':World} (h:Turn b w w') (hb:B<=b) (hB:B<=w.heap.size):Below B w w':=⟨h.1,h.2.1,h.2.2.1,h.2.2.2.1,fun k hk=>h.2.2.2.2 k (by omega) (by omega)⟩
theorem eq_VV (v:V) (w:World):(binOp .eql 29 (vG v) (vG v)).run prog w=.ok (.bool true) w:=by rw[eqlV];simp[eqB]
theorem calls_walk (s:ByteArray) (sl:Value) (tx:Int) (w:World) (R:V)
  (hT:∀ W b,Ready W b->Below w.heap.size w W->Rt 6 #[.pointer (some ⟨b,0,none⟩),.string s,sl,.int .i64 tx] W (vG R))
  (hC:∀ W,Below w.heap.size w W->Rt 7 #[.string s,sl,.int .i64 tx] W (vG R)) :
  Rt 3 #[.string s,sl,.int .i64 tx] w (.bool true):=by
 have HT:=zh hT;have HC:=zh hC;have hq:=eq_VV R;clear hT hC;go_enter func3,ntmps3;go_wp2_with(first|(go_at_call 4;refine(table_New _).mono ?_;rintro e w1 ⟨rfl,hF,hb⟩;have HF:=zh hF;have hc:=zh hb;clear hF hb)|(go_at_call 5;refine(law_knownF w.heap.size w1 (.inr HF.out)).mono ?_;rintro e w2 ⟨rfl,hR,hd⟩;have ha:=zh (hc.out.trans (hd.baseL (Nat.le_refl _) hc.out.size));have HR:=zh hR;have hws:=ha.out.size;clear hR hd)|(go_at_call 6;refine mB (HT.out _ _ HR.out ha.out) ?_;intro l3 q3)|(go_at_call 7;refine mB (HC.out _ (ha.out.trans ((show Below w2.heap.size w2 _ from bel).mono ha.out.size))) ?_;intro l4 q4))
 all_goals go_ret;all_goals exact⟨rfl,ha.out.trans ((show Below w2.heap.size w2 _ from bel).mono ha.out.size)⟩
end Go.Proofs.YtnccknhbplaieaaGreatDoor
