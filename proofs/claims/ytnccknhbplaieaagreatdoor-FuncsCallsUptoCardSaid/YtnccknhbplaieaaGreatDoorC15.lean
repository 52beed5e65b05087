/- Parts. -/
import Derived.Test.YtnccknhbplaieaaGreatDoorC09
import Derived.Laws.Externs
set_option linter.all false
set_option maxRecDepth 100000
set_option maxHeartbeats 4000000
namespace Go.Proofs.YtnccknhbplaieaaGreatDoor
open Go Go.RowKit Go.Proofs.Tryz
open Go.Lib renaming hid->zh
open Go.IntKind renaming i64->Q3,wrap_i64->Q5,wrap_u64->QI,u64->Qc
open _root_.List renaming getElem?_eq_getElem->Q4,take_of_length_le->QA,drop_of_length_le->QE,mem_cons->QK,getElem?_eq_some_iff->QL,getD->QM,mem_singleton->QN,mem_cons_self->QO,replicate->QP,take_succ_eq_append_getElem->QT,length_append->Qa,drop_eq_getElem_cons->Qe,not_mem_nil->Qg,length_cons->Qh,mem_append->Qk,getElem?_eq_none->Qm,length_singleton->Qn,drop_zero->Qo,mem_of_getElem?->Qp,mem_of_mem_take->Qq,getElem?_map->Qz,take_length->Z5,length_take->Z7
open _root_.Nat renaming zero_le->Q7,le_refl->Q8,pow_succ->Q9,div_add_mod->QB,mul_assoc->QC,mul_comm->QD,mul_add->QF,div_lt_of_lt_mul->QG,pow_le_pow_right->QH,div_eq_of_lt->QJ,mod_lt->QR,div_div_eq_div_mul->QS,pow_pos->QU,mul_le_mul_right->QV,mul_add_div->QW,zero_add->QX,add_zero->QY,eq_zero_or_pos->QZ,pos_of_ne_zero->Qb,le_trans->Qj,lt_irrefl->Qr,div_eq_of_lt_le->Qs,mul_le_mul_left->Qu,lt_of_le_of_lt->Qw,le_of_eq->Qx,le_of_lt->Qy,mul_left_comm->Z4
open Go.World renaming ownsRow_lit->QQ,ownsRow_nil->Qd,block_lt_of_cell?->Qi,frozen?_setCell->Ql
open _root_.Int renaming natCast_nonneg->Qv
def U (l:List Nat):List Value:=l.map fun n=>.int .u64 ((n:Nat):Int)
theorem add64 (x y:Nat) (w:World):(callFunc 300 #[.int .u64 ((x:Nat):Int),.int .u64 ((y:Nat):Int),.int .u64 0]).run prog w=.ok (.value (.tuple #[.int .u64 (((x+y) % 18446744073709551616:Nat):Int),.int .u64 (((x+y) / 18446744073709551616:Nat):Int)])) w:=by
 rw[run_callFunc_extern func300 (by kernel_rfl) (by kernel_rfl) (by kernel_rfl) (e:=add64Entry) (by kernel_rfl),run_add64 x y 0 (by omega) (by omega) (by omega) (by omega)];simp only[Result.andThen]
 congr 5<;>omega
def tStep (x:Nat) (s:List Nat×Nat) (w:Nat):List Nat×Nat:=(s.1++[(w*x+s.2) % 18446744073709551616],(w*x+s.2) / 18446744073709551616)
def tSt (x:Nat) (l:List Nat):List Nat×Nat:=l.foldl (tStep x) ([],0)
def zAK (x:Nat) (l:List Nat):List Nat:=if 0<(tSt x l).2 then (tSt x l).1++[(tSt x l).2] else (tSt x l).1
theorem tSt_snoc (x:Nat) (l:List Nat) (w:Nat):tSt x (l++[w])=tStep x (tSt x l) w:=by simp[tSt]
theorem take1 {α:Type} {xs:List α} {k:Nat} {a:α} (h:xs[k]? =some a):xs.take (k+1)=xs.take k++[a]:=by
 rw[List.take_add_one,h]
 rfl
theorem snoc_ind {P:List Nat->Prop} (h0:P []) (h1:∀ l a,P l->P (l++[a])) (l:List Nat):P l:=by
 rw[<- l.reverse_reverse]
 induction l.reverse with
 | nil=>exact h0
 | cons a t ih=>rw[List.reverse_cons];exact h1 _ _ ih
def Word (n:Nat):Prop:=n<18446744073709551616
theorem mulW {w x:Nat} (hw:Word w):w*x<=18446744073709551615*x:=QV x (by unfold Word at hw;omega)
theorem tSt_over (x:Nat):∀ (l:List Nat),(∀ w∈l,Word w)->(tSt x l).2<=x:=by
 intro l;refine snoc_ind (P:=fun l=>(∀ w∈l,Word w)->(tSt x l).2<=x) ?_ ?_ l
 ·intro _;exact Q7 _
 ·intro l w ih h;have h1:=ih (fun u hu=>h u (List.mem_append_left _ hu));have h2:=mulW (x:=x) (h w (List.mem_append_right _ (QN.2 rfl)));rw[tSt_snoc];show (w*x+(tSt x l).2) / 18446744073709551616<=x;generalize w*x=p at *;omega
theorem tSt_len (x:Nat) (l:List Nat):(tSt x l).1.length=l.length:=by
 refine snoc_ind (P:=fun l=>(tSt x l).1.length=l.length) rfl ?_ l;intro l w ih;rw[tSt_snoc];simp[tStep,ih]
theorem tSt_word (x:Nat) (l:List Nat):∀ u∈(tSt x l).1,Word u:=by
 refine snoc_ind (P:=fun l=>∀ u∈(tSt x l).1,Word u) ?_ ?_ l
 ·intro u hu;simp[tSt] at hu
 ·intro l w ih u hu;rw[tSt_snoc] at hu;simp only[tStep,Qk,QN] at hu;rcases hu with hu|hu
  ·exact ih u hu
  ·subst hu;exact QR _ (by decide)
theorem times_len (x:Nat) (l:List Nat):(zAK x l).length<=l.length+1:=by
 unfold zAK;split<;>simp[tSt_len]
theorem times_word (x:Nat) (hx:Word x) (l:List Nat) (hl:∀ w∈l,Word w):∀ u∈zAK x l,Word u:=by
 intro u hu;unfold zAK at hu;split at hu
 ·simp only[Qk,QN] at hu;rcases hu with hu|hu
  ·exact tSt_word x l u hu
  ·subst hu;have:=tSt_over x l hl;unfold Word at *;omega
 ·exact tSt_word x l u hu
theorem info_U:(prog.info? 133).map (fun i=>(i.zero,i.size,i.bytes))=some (some (.int .u64 0),1,8):=by kernel_rfl
theorem U_append (a b:List Nat):U (a++b)=U a++U b:=by simp[U]
theorem U_one (n:Nat):∀ u∈U [n],u.oneCell'=true:=by
 intro u hu;simp only[U,List.map_cons,List.map_nil,QK,Qg,or_false] at hu;subst hu
 rfl
def Words (w:World) (v:Value) (l:List Nat):Prop:=∃ A c,v=.slice A l.length c/\Reads w w.heap.size 1 A l.length (U l)
theorem Words.below {w w':World} {v:Value} {l:List Nat} (h:Words w v l) (hb:Below w.heap.size w w'):Words w' v l:=by
 obtain⟨A,c,e,hr⟩:=h;exact⟨A,c,e,(hr.below hb).lift hb.size⟩
theorem own_words {w:World} {base:Nat} {v:Value} {l:List Nat} (h:w.ownsRow base 133 1 v l.length (U l)):Words w v l:=by
 rcases QZ l.length with h0|h0
 ·rcases h.2 with ⟨h1,h2⟩|⟨g,cap,cur,e1,_⟩
  ·subst h1;exact⟨none,0,by rw[h0],by simp[U],fun h=>by omega⟩
  ·exact⟨_,_,e1,by simp[U],fun h=>by omega⟩
 ·obtain⟨g,c,e,_,_,_,hg,ha,_⟩:=stk_form h h0;exact⟨_,_,e,by simp[U],fun _=>⟨g,0,rfl,hg,fun j u hu=>by rw[QX];exact ha j u hu⟩⟩
theorem dec_times (x:Nat) (hx:Word x) (l:List Nat) (hl:∀ u∈l,Word u) (hn:l.length<=1000) (v:Value) (w:World) (hv:Words w v l) :
  Calls prog 275 #[v,.int .u64 ((x:Nat):Int)] w fun e w'=>(∃ r,e=.returned r/\Words w' r (zAK x l))/\Below w.heap.size w w':=by
 obtain⟨A,c,rfl,hr⟩:=hv;obtain⟨i0,hi,hD,hE,hF⟩:=info_parts info_U;have ha:=fun (x y:Nat) (w:World)=>add64 x y w;obtain⟨n,hA⟩:=lt_ l.length;rw[hA] at hr hn ⊢;have HL:=zh hl;have HR:=zh hr;have HX:=zh hx;have HA:=zh ha;obtain⟨T,hT⟩:=lt_ (zAK x l);rw[hT];have HT:=zh hT;clear hl hr hx ha hT;go_enter func275,ntmps275;go_wp2
 go_loopw [15,6,5] (fun t o v wr=>∃ j:Nat,j<=n/\t=.int .i64 j/\o=.int .u64 (((tSt x (l.take j)).2:Nat):Int)/\StkRel w wr 133 1 v j (U (tSt x (l.take j)).1)) (fun t _ _ _=>n-(intOf t).toNat)
 case atStart=>exact⟨0,Q7 _,rfl,rfl,Below.refl _ _,Qd _ _ _ _⟩
 case round =>
  obtain⟨j,hj,rfl,rfl,hR⟩:=hrel;have HS:=zh hR;have hsz:=hR.1.size;clear hR;by_cases hlt:j<n
  ·obtain⟨b,off,rfl,_,hc⟩:=HR.out.2 (by omega);obtain⟨a,ha⟩:∃ a,l[j]? =some a:=⟨_,Q4 (show j<l.length by omega)⟩
   have c0:wr.cell? ⟨b,off+j,none⟩=some (.int .u64 (a:Int)):=by
    have h1:=hc j _ (show (U l)[j]? =some (.int .u64 (a:Int)) by simp[U,ha]);exact(HS.out.1.cell (p:=⟨b,_,none⟩) (Qi w _ h1)).trans h1
   have ht:=HL.out a (Qp ha);have ho:=tSt_over x (l.take j) (fun u hu=>HL.out u (Qq hu));have hw:=tSt_snoc x (l.take j) a;rw[<- take1 ha] at hw;obtain⟨o,he⟩:=lt_ ((tSt x (l.take j)).2);have hm:=mulW (x:=x) ht;obtain⟨p,hp⟩:=lt_ (a*x);obtain⟨p1,hC⟩:=lt_ (p / 18446744073709551616);obtain⟨p0,hB⟩:=lt_ (p % 18446744073709551616);obtain⟨s,hs⟩:=lt_ ((p0+o) % 18446744073709551616);obtain⟨k,hk⟩:=lt_ ((p0+o) / 18446744073709551616);have hz:=HX.out;unfold Word at hz ht;rw[he] at ho;rw[hp] at hm;have hov:p1+k<18446744073709551616:=by omega
   have e1:(tSt x (l.take (j+1))).1=(tSt x (l.take j)).1++[s]:=by rw[hw];simp only[tStep,he,hp];congr 2;omega
   have e2:(tSt x (l.take (j+1))).2=p1+k:=by rw[hw];simp only[tStep,he,hp];omega
   have E1:=zh e1;have E2:=zh e2;have HP:=zh hp;have hI:=zh hC;have hH:=zh hB;have HSS:=zh hs;have HK:=zh hk;have hG:=zh ht;have hK:(p1:Int)+(k:Int)<18446744073709551616:=by omega
   have hy:=HA.out p0 o;rw[hs,hk] at hy;rw[he];clear hw hm hp hC hB hs hk e1 e2 ht ho he hc;go_wp2_with(first|(go_at_call 271;refine(Tryz.bits_Mul64 a x hG.out HX.out _).mono ?_;rw[HP.out,hI.out,hH.out];rintro e w1 ⟨rfl,rfl⟩)|(at_builtin;refine wpList_append_own _ rfl _ _ 223 rfl w.heap.size 133 i0 _ 1 8 underlying223 hi hD hE hF rfl (by decide) _ _ _ rfl (stk_below HS.out.2 bel) _ 1 1 (U [s]) rfl rfl ?_ ?_ ?_ ?_ ?_ ?_))
   ·exact fun i u hu=>zBp (by simp) i u hu
   ·exact U_one s
   ·simp only[maxLen];omega
   ·omega
   ·have h1:=HS.out.1.size;simp at h1 ⊢
    try omega
   ·intro v' w1 hd hb _;have R:=StkRel.step HS.out bel (show w1.ownsRow w.heap.size 133 1 v' (j+1) (U (tSt x (l.take j)).1++U [s]) from by simpa using hd) hb;rw[<- U_append,<-E1.out] at R;have hh:=zh R;clear hd hb R HS c0;go_wp2;go_roundw;case rel=>exact⟨j+1,by omega,by go_num,by rw[E2.out];first|rfl|go_num,hh.out⟩
    case measure=>simp[intOf];omega
  ·obtain rfl:j=n:=by omega
   have hS:=HS.out;rw[QA (by omega)] at hS ⊢;have hT:=HT.out;have ho:=tSt_over x l HL.out;have hz:=HX.out;unfold Word at hz;obtain⟨o,he⟩:=lt_ ((tSt x l).2);obtain⟨L,hq⟩:=lt_ ((tSt x l).1);have hg:L.length=j:=by rw[<- hq,tSt_len,hA]
   unfold zAK at hT;rw[he,hq] at hT;rw[hq] at hS;rw[he] at ho;rw[he];have hf:=zh hS;clear hS HS HT hq;by_cases h0:0<o
   ·rw[if_pos h0] at hT;have hJ:(0:Int)<(o:Int):=by omega
    subst hT;go_wp2_with(at_builtin;refine wpList_append_own _ rfl _ _ 223 rfl w.heap.size 133 i0 _ 1 8 underlying223 hi hD hE hF rfl (by decide) _ _ _ rfl (stk_below hf.out.2 bel) _ 1 1 (U [o]) rfl rfl ?_ ?_ ?_ ?_ ?_ ?_)
    ·exact fun i u hu=>zBp (by simp) i u hu
    ·exact U_one o
    ·simp only[maxLen];omega
    ·omega
    ·have h1:=hf.out.1.size;simp at h1 ⊢
     try omega
    ·intro v' w1 hd hb _;have R:=StkRel.step hf.out bel (show w1.ownsRow w.heap.size 133 1 v' (j+1) (U L++U [o]) from by simpa using hd) hb;rw[<- U_append] at R;have hh:=zh R;clear hd hb R hf;go_wp2;go_returns;refine⟨⟨_,rfl,own_words (base:=w.heap.size) ?_⟩,hh.out.1⟩;have h:=hh.out.2;have e:(L++[o]).length=j+1:=by simp[hg]
     rw[e];exact h
   ·rw[if_neg h0] at hT;have hJ: ¬ (0:Int)<(o:Int):=by omega
    subst hT;go_wp2;go_returns;refine⟨⟨_,rfl,own_words (base:=w.heap.size) ?_⟩,hf.out.1⟩;rw[hg];exact hf.out.2
def bSt (x:Nat):List Nat->List Nat×Nat
 | []=>([],0)
 | w::ws=>(((bSt x ws).2*18446744073709551616+w) / x::(bSt x ws).1,((bSt x ws).2*18446744073709551616+w) % x)
def strip (L:List Nat):Nat->List Nat
 | 0=>[]
 | m+1=>if L.getD m 0=0 then strip L m else L.take (m+1)
def byL (x:Nat) (l:List Nat):List Nat:=strip (bSt x l).1 l.length
theorem bSt_len (x:Nat):∀ l,(bSt x l).1.length=l.length
 | []=>rfl
 | w::ws=>by simp[bSt,bSt_len x ws]
theorem bSt_rest (x:Nat) (hx:0<x):∀ l,(bSt x l).2<x
 | []=>hx
 | w::ws=>QR _ hx
theorem bSt_word (x:Nat) (hx:0<x):∀ l,(∀ u∈l,Word u)->∀ u∈(bSt x l).1,Word u
 | [],_,u,hu=>by simp[bSt] at hu
 | w::ws,h,u,hu=>by
   simp only[bSt,QK] at hu;rcases hu with hu|hu
   ·subst hu;have h1:=bSt_rest x hx ws;have h2:=h w (QO ..);unfold Word at *;refine QG ?_;have h3:((bSt x ws).2+1)*18446744073709551616<=x*18446744073709551616:=QV _ h1;generalize (bSt x ws).2=r at *;omega
   ·exact bSt_word x hx ws (fun v hv=>h v (List.mem_cons_of_mem _ hv)) u hu
theorem strip_sub (L:List Nat):∀ m,∀ u∈strip L m,u∈L
 | 0,u,hu=>by simp[strip] at hu
 | m+1,u,hu=>by
   unfold strip at hu;split at hu
   ·exact strip_sub L m u hu
   ·exact Qq hu
theorem strip_len (L:List Nat):∀ m,(strip L m).length<=m
 | 0=>Q8 _
 | m+1=>by
   unfold strip;split
   ·have:=strip_len L m;omega
   ·simp;omega
theorem by_word (x:Nat) (hx:0<x) (l:List Nat) (hl:∀ u∈l,Word u):∀ u∈byL x l,Word u:=fun u hu=>bSt_word x hx l hl u (strip_sub _ _ u hu)
theorem by_len (x:Nat) (l:List Nat):(byL x l).length<=l.length:=strip_len _ _
theorem zAG {W:World} {a:Addr} {u:Value} (h:(W.cell? a).isSome=true):(W.setCell a u).cell? a=some u:=by
 obtain⟨v,hv⟩:=Option.isSome_iff_exists.1 h;exact World.cell?_setCell_same _ _ _ hv
theorem atB_set {w:World} {g i:Nat} {L:List Value} (h:AtB w g L) (hi:i<L.length) (u:Value):AtB (w.setCell ⟨g,i,none⟩ u) g (L.set i u):=by
 intro j v hv;have hj:j<L.length:=by have:=(QL.1 hv).1;simpa using this
 by_cases e:j=i
 ·subst e;rw[List.getElem?_set_self hi] at hv;cases hv;exact zAG (by rw[h j _ (Q4 hj)];rfl)
 ·rw[List.getElem?_set_ne (Ne.symm e)] at hv;rw[World.cell?_setCell_other _ _ _ _ (by intro h2;injection h2 with _ h3;exact e h3.symm)];exact h j v hv
theorem rep_set (k q:Nat) (M:List Nat):(U (QP (k+1) 0++M)).set k (.int .u64 (q:Int))=U (QP k 0++q::M):=by
 induction k with
 | zero=>rfl
 | succ k ih =>
   have e:U (QP (k+1+1) 0++M)=Value.int .u64 0::U (QP (k+1) 0++M):=rfl;rw[e,List.set_cons_succ,ih]
   rfl
theorem dec_by (x:Nat) (hx:Word x) (hx0:0<x) (l:List Nat) (hl:∀ u∈l,Word u) (hn:l.length<=1000) (v:Value) (w:World) (hv:Words w v l) :
  Calls prog 276 #[v,.int .u64 ((x:Nat):Int)] w fun e w'=>(∃ r,e=.returned r/\Words w' r (byL x l))/\Below w.heap.size w w':=by
 obtain⟨A,c,rfl,hr⟩:=hv;obtain⟨i0,hi,hO,hG,hP⟩:=info_parts info_U;obtain⟨n,hE⟩:=lt_ l.length;have hmk:∀ w,(Instr.makeSlice 223 (.int .i64 ((n:Nat):Int)) (.int .i64 ((n:Nat):Int))).run prog w=.ok (.slice (some ⟨w.heap.size,0,none⟩) n n) (w.alloc (.cells (madeCells #[.int .u64 0] n) 133)):=fun w=>by
  have h:=run_makeSlice (P:=prog) (w:=w) 223 133 i0 (.int .u64 0) underlying223 hi hO .i64 .i64 n n (by omega) (Int.le_refl _) (by rw[hG];omega) (by rw[hP];omega) (by omega)
  simpa [hG,Value.cells] using h
 obtain⟨T,hT⟩:=lt_ (byL x l);rw[hT];rw[hE] at hr hn ⊢;have HL:=zh hl;have HR:=zh hr;have HX:=zh hx;have HT:=zh hT;have HN:=zh hE;clear hl hr hx hT;go_enter func276,ntmps276;go_wp2
 go_loopw [7,6] (fun t o wr=>∃ k:Nat,k<=n/\t=.int .i64 ((k:Int)-1)/\o=.int .u64 (((bSt x (l.drop k)).2:Nat):Int)/\Below w.heap.size w wr/\AtB wr w.heap.size (U (QP k 0++(bSt x (l.drop k)).1))/\(∀ i,wr.frozen? ⟨w.heap.size,i,none⟩=false)/\w.heap.size<wr.heap.size) (fun t _ _=>(intOf t+1).toNat)
 case atStart =>
  refine⟨n,Q8 _,by go_num,?_,bel,?_,fun i=>frozen_of_row _ _ _ _ _ (heap_alloc_new w _),by simp⟩
  ·rw[QE (by omega)];rfl
  ·rw[QE (by omega)];have h:=AtB.new (w:=w) (cs:=madeCells #[.int .u64 0] n) (t:=133) rfl;rw[Go.toList_madeCells_one] at h
   simpa [U,bSt] using h
 case round =>
  obtain⟨k,hk,rfl,rfl,hB,hy,hf,hF⟩:=hrel;have HB:=zh hB;have HA:=zh hy;have HF:=zh hf;clear hB hy hf;rcases QZ k with h0|h0
  ·subst h0;have hA:=HA.out;rw[Qo] at hA;have hT:=HT.out;unfold byL at hT;rw[HN.out] at hT;have hh:=bSt_len x l;rw[HN.out] at hh;obtain⟨qs,hL⟩:=lt_ ((bSt x l).1);rw[hL] at hT hh hA;have ht:=zh (show AtB wr w.heap.size (U qs) from hA);have hN:=zh hT;clear hT hA HA hL HT;go_wp2
   go_loop [5] (fun t=>∃ m:Nat,m<=n/\t=.slice (some ⟨w.heap.size,0,none⟩) m n/\strip qs m=T) (fun t=>match t with| .slice _ m _=>m|_=>0)
   case atStart=>exact⟨n,Q8 _,rfl,hN.out⟩
   case round =>
    obtain⟨m,hm,rfl,hs⟩:=hrel;rcases QZ m with h0|h0
    ·subst h0;have he:T=[]:=hs.symm;subst he;clear hs;go_wp2;go_returns;exact⟨⟨_,rfl,some ⟨w.heap.size,0,none⟩,n,rfl,rfl,fun h=>absurd h (Qr 0)⟩,HB.out⟩
    ·obtain⟨j,rfl⟩:∃ j,m=j+1:=⟨m-1,by omega⟩
     obtain⟨a,ha⟩:∃ a,qs[j]? =some a:=⟨_,Q4 (show j<qs.length by omega)⟩
     have c0:wr.cell? ⟨w.heap.size,j,none⟩=some (.int .u64 (a:Int)):=ht.out j _ (by simp[U,ha]);have hg:qs.getD j 0=a:=by simp[QM,ha]
     by_cases hz:a=0
     ·subst hz;have he:strip qs j=T:=by rw[<- hs];show _=if qs.getD j 0=0 then strip qs j else qs.take (j+1);rw[if_pos hg]
      have HS:=zh he;clear hs he hg ha;go_wp2;go_round;case rel=>exact⟨j,by omega,rfl,HS.out⟩
      case measure=>simp
     ·have he:T=qs.take (j+1):=by rw[<- hs];show (if qs.getD j 0=0 then strip qs j else qs.take (j+1))=_;rw[if_neg (by omega)]
      have hz': ¬ (a:Int)=0:=by omega
      have HS:=zh he;clear hs he hg ha;go_wp2;go_returns;refine⟨⟨_,rfl,some ⟨w.heap.size,0,none⟩,n,?_,?_,fun h=>⟨w.heap.size,0,rfl,hF,fun i u hu=> ?_⟩⟩,HB.out⟩
      ·rw[HS.out];simp;omega
      ·simp[U]
      ·rw[QX];rw[HS.out] at hu;have h1:(U (qs.take (j+1)))[i]? =((U qs).take (j+1))[i]? :=by simp[U,List.map_take]
       rw[h1,List.getElem?_take] at hu;split at hu
       ·exact ht.out i u hu
       ·cases hu
  ·obtain⟨m,rfl⟩:∃ m,k=m+1:=⟨k-1,by omega⟩
   obtain⟨b,off,rfl,hbl,hc⟩:=HR.out.2 (by omega);obtain⟨a,ha⟩:∃ a,l[m]? =some a:=⟨_,Q4 (show m<l.length by omega)⟩
   have c0:wr.cell? ⟨b,off+m,none⟩=some (.int .u64 (a:Int)):=by
    have h1:=hc m _ (show (U l)[m]? =some (.int .u64 (a:Int)) by simp[U,ha]);exact(HB.out.cell (p:=⟨b,_,none⟩) (Qi w _ h1)).trans h1
   have hbg:b<wr.heap.size:=by omega
   have hd:l.drop m=a::l.drop (m+1):=by
    obtain⟨hm,hv⟩:=QL.1 ha;rw[Qe hm,hv]
   have hp:bSt x (l.drop m)=(((bSt x (l.drop (m+1))).2*18446744073709551616+a) / x::(bSt x (l.drop (m+1))).1,((bSt x (l.drop (m+1))).2*18446744073709551616+a) % x):=by rw[hd];rfl
   have hC:a<18446744073709551616:=HL.out a (Qp ha);have hr:=bSt_rest x hx0 (l.drop (m+1));obtain⟨r,ho⟩:=lt_ ((bSt x (l.drop (m+1))).2);obtain⟨M,hM⟩:=lt_ ((bSt x (l.drop (m+1))).1);obtain⟨q,hq⟩:=lt_ ((r*18446744073709551616+a) / x);obtain⟨r2,hj⟩:=lt_ ((r*18446744073709551616+a) % x);rw[ho,hM,hq,hj] at hp;have hA:=HA.out;rw[hM] at hA;have hH:=zh hA;have d0:wr.cell? ⟨w.heap.size,m,none⟩=some (.int .u64 0):=hA m _ (by simp[U,List.getElem?_append_left,List.getElem?_replicate]);have f0:=HF.out m;rw[ho] at hr ⊢;have hD:((m+1:Nat):Int)-1=(m:Int):=by omega
   rw[hD];have HQ:=zh hq;have hJ:=zh hj;have hw:=zh hp;have hK:=zh hr;have hI:=zh hC;clear hp hq hj hM ho hr hC hA HA hd ha hc hD;go_wp2_with(go_at_call 304;refine(Div64 r a x hK.out hI.out HX.out _).mono ?_;rw[HQ.out,hJ.out];rintro e w1 ⟨rfl,hb⟩;obtain⟨l1,n1,rfl⟩:=zA0 hb;clear hb)
   go_roundw;case rel =>
    refine⟨m,by omega,by go_num,by rw[hw.out],?_,?_,?_,?_⟩
    ·have hB:=HB.out;exact bel
    ·rw[hw.out,<-rep_set];exact(atB_set hH.out (by simp[U];omega) _).below bel
    ·intro i;rw[more_frozen (by simpa using hF)]
     simpa using HF.out i
    ·simp;omega
   case measure=>simp[intOf]
def iterN (f:List Nat->List Nat):Nat->List Nat->List Nat
 | 0,l=>l
 | k+1,l=>f (iterN f k l)
theorem zBg (x:Nat) (hx:Word x) (l:List Nat) (hl:∀ u∈l,Word u):∀ k,(∀ u∈iterN (zAK x) k l,Word u)/\(iterN (zAK x) k l).length<=l.length+k
 | 0=>⟨hl,Q8 _⟩
 | k+1=>by
   have ih:=zBg x hx l hl k;have h:=times_len x (iterN (zAK x) k l);exact⟨times_word x hx _ ih.1,by show (zAK x _).length<=_;omega⟩
theorem iter_by (x:Nat) (hx:0<x) (l:List Nat) (hl:∀ u∈l,Word u):∀ k,(∀ u∈iterN (byL x) k l,Word u)/\(iterN (byL x) k l).length<=l.length
 | 0=>⟨hl,Q8 _⟩
 | k+1=>by
   have ih:=iter_by x hx l hl k;have h:=by_len x (iterN (byL x) k l);exact⟨by_word x hx _ ih.1,by show (byL x _).length<=_;omega⟩
theorem word2:∀ u∈[2],Word u:=by
 intro u hu;simp only[QK,Qg,or_false] at hu;subst hu;exact(by decide:2<18446744073709551616)
theorem words_new {w:World} {p:Nat} (hp:p=w.heap.size):Words (w.alloc (.cells #[.int .u64 2] 133)) (.slice (some ⟨p,0,none⟩) 1 1) [2]:=by
 subst hp;exact⟨_,_,rfl,rfl,fun _=>⟨w.heap.size,0,rfl,by simp,fun j u hu=>by rw[QX];exact(AtB.new rfl) j u hu⟩⟩
theorem word1e4:Word 10000:=(by decide:10000<18446744073709551616)
def powE (l:List Nat) (b:Bool):Int×Int:=if 1<l.length then (0,2) else signX (l.headD 0 / 2+l.headD 0 % 2) b
def powL (m:Nat) (n:Int):List Nat:=if 0<n then iterN (byL 10000) (n-1).toNat (iterN (zAK m) n.toNat [2]) else iterN (byL m) (-n).toNat (iterN (zAK 10000) (1-n).toNat [2])
def powX (x n:Int):Int×Int:=if x=minI then (0,2) else if n< -64∨64<n then (0,8) else if n=0 then (10000,0) else if x=0/\n<0 then (0,3) else powE (powL x.natAbs n) (lowX x&&n % 2 != 0)
theorem power_up (x n:Int) (hx:Is64 x) (hm:x≠minI) (hz:x≠0) (hn0:0<n) (hn64:n<=64) (w:World):Rt 198 #[.int .i64 x,.int .i64 n] w (.tuple #[.int .i64 (powX x n).1,.int .i64 (powX x n).2]):=by
 have k1:(x != minI)=true:=by simp[hm]
 obtain⟨k,hk⟩:∃ k:Nat,n=(k:Int)+1:=⟨(n-1).toNat,by omega⟩
 obtain⟨m,ht⟩:=lt_ x.natAbs;have hv:Word m:=by unfold Is64 at hx;unfold Word;omega
 have hp:powX x n=powE (iterN (byL 10000) k (iterN (zAK m) (k+1) [2])) (lowX x&&n % 2 != 0):=by
  unfold powX powL;rw[if_neg hm,if_neg (show ¬ (n< -64∨64<n) by omega),if_neg (show ¬ n=0 by omega),if_neg (show ¬ (x=0/\n<0) by omega),if_pos (show 0<n by omega),ht,show (n-1).toNat=k by omega,show n.toNat=k+1 by omega]
 rw[hp];obtain⟨R,hR⟩:=lt_ (powE (iterN (byL 10000) k (iterN (zAK m) (k+1) [2])) (lowX x&&n % 2 != 0));rw[hR];have hg:=zh hk;have HR:=zh hR;have HX:=zh hx;have HM:=zh ht;have hn:=zh hv;have hD:=zh (iter_by 10000 (by decide) _ (zBg m hv [2] word2 (k+1)).1 k).1;have hnx:Q3.wrap (n-1)=(k:Int):=by rw[Q5];omega
 have hn1: ¬ n< -64:=by omega
 have hn2: ¬ n<0:=by omega
 have hn3: ¬ n=0:=by omega
 have hL:k<64:=by omega
 have hz2:(x==0)=false:=by simp[hz]
 clear hR hx ht hv hp hm hz hk;go_enter func198,ntmps198;go_wp2_with(first|(go_at_call 86;refine(zAX _ _).mono ?_;rintro e w1 ⟨rfl,rfl⟩)|(go_at_call 270;refine(zBP x HX.out _).mono ?_;rw[HM.out];rintro e w1 ⟨rfl,rfl⟩))
 go_loopw [42,8] (fun t v wr=>∃ j:Nat,j<=(k+1)/\t=.int .i64 j/\Words wr v (iterN (zAK m) j [2])/\Below w.heap.size w wr) (fun t _ _=>(k+1)-(intOf t).toNat)
 case atStart=>exact⟨0,Q7 _,rfl,words_new rfl,bel⟩
 case round =>
  obtain⟨j,hj,rfl,hW,hB⟩:=hrel;have HW:=zh hW;have HB:=zh hB;have hA:=hB.size;clear hW hB;by_cases hlt:j<(k+1)
  ·have hb:(j:Int)<n:=by have:=hg.out;omega
   have he:=(show (∀ u∈iterN (zAK m) j [2],Word u)/\(iterN (zAK m) j [2]).length<=1+j from zBg m hn.out [2] word2 j)
   have HO:=zh he;clear he;go_wp2_with fail
   go_at_call 275
   refine(dec_times m hn.out  _ HO.out.1 (by have h5:=HO.out.2;omega) _ _ HW.out).mono ?_;rintro e w1 ⟨⟨v1,rfl,hf⟩,hd⟩;have ho:=zh hf;have hi:=zh (HB.out.trans (hd.mono hA));clear hf hd;go_wp2;go_roundw;case rel=>exact⟨j+1,by omega,by go_num,ho.out,hi.out⟩
   case measure=>simp[intOf];omega
  ·obtain rfl:j=(k+1):=by omega
   have hb: ¬ ((k+1:Nat):Int)<n:=by have:=hg.out;omega
   clear hlt hj;have hI:=zh HW.out;have hF:=zh HB.out;clear HW HB;go_wp2
   go_loopw [50,8] (fun t v wr=>∃ j:Nat,j<=k/\t=.int .i64 j/\Words wr v (iterN (byL 10000) j (iterN (zAK m) (k+1) [2]))/\Below w.heap.size w wr) (fun t _ _=>k-(intOf t).toNat)
   case atStart=>exact⟨0,Q7 _,rfl,hI.out,hF.out⟩
   case round =>
    obtain⟨j,hj,rfl,hW,hB⟩:=hrel;have HW:=zh hW;have HB:=zh hB;have hA:=hB.size;clear hW hB;by_cases hlt:j<k
    ·have hb:(j:Int)<(k:Int):=by have:=hg.out;omega
     have he:=(show (∀ u∈_,Word u)/\(iterN (byL 10000) j (iterN (zAK m) (k+1) [2])).length<=1000 from by have h1:(∀ u∈iterN (zAK m) (k+1) [2],Word u)/\(iterN (zAK m) (k+1) [2]).length<=1+(k+1):=zBg m hn.out [2] word2 (k+1);have h2:=iter_by 10000 (by decide) _ h1.1 j;exact⟨h2.1,by have:=h1.2;have:=h2.2;omega⟩)
     have HO:=zh he;clear he;go_wp2_with fail
     go_at_call 276
     refine(dec_by 10000 word1e4 (by decide)  _ HO.out.1 (by have h5:=HO.out.2;omega) _ _ HW.out).mono ?_;rintro e w1 ⟨⟨v1,rfl,hf⟩,hd⟩;have ho:=zh hf;have hi:=zh (HB.out.trans (hd.mono hA));clear hf hd;go_wp2;go_roundw;case rel=>exact⟨j+1,by omega,by go_num,ho.out,hi.out⟩
     case measure=>simp[intOf];omega
    ·obtain rfl:j=k:=by omega
     have hb: ¬ (j:Int)<(j:Int):=by have:=hg.out;omega
     clear hlt hj;have hR:=HR.out;obtain⟨H,hH⟩:=lt_ (iterN (byL 10000) j (iterN (zAK m) (j+1) [2]));rw[hH] at hR;have hw:=HW.out;rw[hH] at hw;obtain⟨A,c,rfl,hy⟩:=hw;have ha:∀ u∈H,Word u:=by rw[<- hH];exact hD.out
     clear HR HW hH hD;unfold powE at hR;by_cases h1:1<H.length
     ·have hJ:(1:Int)<(H.length:Int):=by omega
      rw[if_pos h1] at hR;subst hR;clear hy;go_wp2;go_returns;exact⟨rfl,HB.out⟩
     ·have hJ: ¬ (1:Int)<(H.length:Int):=by omega
      rw[if_neg h1] at hR;have hh:Word (H.headD 0):=by
       cases H with
       | nil=>exact(by decide:0<18446744073709551616)
       | cons a t=>exact ha a (QO ..)
      obtain⟨h,hr⟩:=lt_ (H.headD 0);rw[hr] at hR hh;have HH:=zh hh;have hq:h / 2+h % 2<18446744073709551616:=by unfold Word at hh;omega
      have hl:=zh hr;have hC:=zh hy;have hG:=zh hR;unfold Word at hh;clear hr hy ha hR;go_wp2
      go_loop [75,9] (fun t u=>∃ j:Nat,j<=H.length/\t=.int .i64 j/\((j=0/\u=.int .u64 0)∨(0<j/\u=.int .u64 (h:Int)))) (fun t _=>H.length-(intOf t).toNat)
      case atStart=>exact⟨0,Q7 _,rfl,.inl ⟨rfl,rfl⟩⟩
      case round =>
       obtain⟨j,hj,rfl,hu⟩:=hrel;by_cases hlt:j<H.length
       ·obtain rfl:j=0:=by omega
        obtain rfl:=(hu.resolve_right (by omega)).2;obtain⟨b,off,rfl,_,hc⟩:=hC.out.2 hlt;have c0:=hc 0 _ (show (U H)[0]? =some (.int .u64 (h:Int)) by have:=hl.out;cases H with|nil=>simp at hlt|cons a t=>simp at this;simp[U,this]);clear hc hu;rw[QY] at c0;go_wp2;go_round;case rel=>exact⟨1,by omega,by go_num,.inr ⟨by omega,rfl⟩⟩
        case measure=>simp[intOf];omega
       ·have hK:j=H.length:=by omega
        have hM:u9=.int .u64 (h:Int):=by
         rcases hu with ⟨h0,e⟩|⟨_,e⟩
         ·have h5:H=[]:=by cases H with|nil=>rfl|cons a t=>simp at hK;omega
          have h6:=hl.out;rw[h5] at h6;rw[e,<-h6]
          rfl
         ·exact e
        subst hM;clear hu hlt hj hl hC;obtain⟨lb,hs⟩:=lt_ (lowX x);have hE:=hG.out;rw[hs] at hE;subst hE;rw[hs];clear hs;cases lb;all_goals go_wp2_with(go_at_call 272;refine(signed_int (h / 2+h % 2) _ (by omega) hq _ _).mono ?_;rintro e w1 ⟨rfl,rfl⟩)
        all_goals go_returns;all_goals first|exact⟨rfl,HB.out⟩|(refine⟨?_,HB.out⟩;simp_all)
theorem power_nought (n:Int) (hn0:0<n) (hn64:n<=64) (w:World):Rt 198 #[.int .i64 0,.int .i64 n] w (.tuple #[.int .i64 (powX 0 n).1,.int .i64 (powX 0 n).2]):=by
 have k1:((0:Int) != minI)=true:=by decide
 have hx:Is64 0:=⟨by decide,by decide⟩
 have hm:(0:Int)≠minI:=by decide
 obtain⟨k,hk⟩:∃ k:Nat,n=(k:Int)+1:=⟨(n-1).toNat,by omega⟩
 obtain⟨m,ht⟩:=lt_ ((0:Int).natAbs);have hv:Word m:=by unfold Word;omega
 have hp:powX 0 n=powE (iterN (byL 10000) k (iterN (zAK m) (k+1) [2])) (lowX 0&&n % 2 != 0):=by
  unfold powX powL;rw[if_neg hm,if_neg (show ¬ (n< -64∨64<n) by omega),if_neg (show ¬ n=0 by omega),if_neg (show ¬ ((0:Int)=0/\n<0) by omega),if_pos (show 0<n by omega),ht,show (n-1).toNat=k by omega,show n.toNat=k+1 by omega]
 rw[hp];obtain⟨R,hR⟩:=lt_ (powE (iterN (byL 10000) k (iterN (zAK m) (k+1) [2])) (lowX 0&&n % 2 != 0));rw[hR];have hg:=zh hk;have HR:=zh hR;have HX:=zh hx;have HM:=zh ht;have hn:=zh hv;have hC:=zh (iter_by 10000 (by decide) _ (zBg m hv [2] word2 (k+1)).1 k).1;have hnx:Q3.wrap (n-1)=(k:Int):=by rw[Q5];omega
 have hn1: ¬ n< -64:=by omega
 have hn2: ¬ n<0:=by omega
 have hn3: ¬ n=0:=by omega
 have hK:k<64:=by omega
 clear hR hx ht hv hp hm hk;go_enter func198,ntmps198;go_wp2_with(first|(go_at_call 86;refine(zAX _ _).mono ?_;rintro e w1 ⟨rfl,rfl⟩)|(go_at_call 270;refine(zBP 0 HX.out _).mono ?_;rw[HM.out];rintro e w1 ⟨rfl,rfl⟩))
 go_loopw [42,8] (fun t v wr=>∃ j:Nat,j<=(k+1)/\t=.int .i64 j/\Words wr v (iterN (zAK m) j [2])/\Below w.heap.size w wr) (fun t _ _=>(k+1)-(intOf t).toNat)
 case atStart=>exact⟨0,Q7 _,rfl,words_new rfl,bel⟩
 case round =>
  obtain⟨j,hj,rfl,hW,hB⟩:=hrel;have HW:=zh hW;have HB:=zh hB;have hz:=hB.size;clear hW hB;by_cases hlt:j<(k+1)
  ·have hb:(j:Int)<n:=by have:=hg.out;omega
   have he:=(show (∀ u∈iterN (zAK m) j [2],Word u)/\(iterN (zAK m) j [2]).length<=1+j from zBg m hn.out [2] word2 j)
   have HO:=zh he;clear he;go_wp2_with fail
   go_at_call 275
   refine(dec_times m hn.out  _ HO.out.1 (by have h5:=HO.out.2;omega) _ _ HW.out).mono ?_;rintro e w1 ⟨⟨v1,rfl,hf⟩,hd⟩;have ho:=zh hf;have hi:=zh (HB.out.trans (hd.mono hz));clear hf hd;go_wp2;go_roundw;case rel=>exact⟨j+1,by omega,by go_num,ho.out,hi.out⟩
   case measure=>simp[intOf];omega
  ·obtain rfl:j=(k+1):=by omega
   have hb: ¬ ((k+1:Nat):Int)<n:=by have:=hg.out;omega
   clear hlt hj;have hG:=zh HW.out;have hE:=zh HB.out;clear HW HB;go_wp2
   go_loopw [50,8] (fun t v wr=>∃ j:Nat,j<=k/\t=.int .i64 j/\Words wr v (iterN (byL 10000) j (iterN (zAK m) (k+1) [2]))/\Below w.heap.size w wr) (fun t _ _=>k-(intOf t).toNat)
   case atStart=>exact⟨0,Q7 _,rfl,hG.out,hE.out⟩
   case round =>
    obtain⟨j,hj,rfl,hW,hB⟩:=hrel;have HW:=zh hW;have HB:=zh hB;have hz:=hB.size;clear hW hB;by_cases hlt:j<k
    ·have hb:(j:Int)<(k:Int):=by have:=hg.out;omega
     have he:=(show (∀ u∈_,Word u)/\(iterN (byL 10000) j (iterN (zAK m) (k+1) [2])).length<=1000 from by have h1:(∀ u∈iterN (zAK m) (k+1) [2],Word u)/\(iterN (zAK m) (k+1) [2]).length<=1+(k+1):=zBg m hn.out [2] word2 (k+1);have h2:=iter_by 10000 (by decide) _ h1.1 j;exact⟨h2.1,by have:=h1.2;have:=h2.2;omega⟩)
     have HO:=zh he;clear he;go_wp2_with fail
     go_at_call 276
     refine(dec_by 10000 word1e4 (by decide)  _ HO.out.1 (by have h5:=HO.out.2;omega) _ _ HW.out).mono ?_;rintro e w1 ⟨⟨v1,rfl,hf⟩,hd⟩;have ho:=zh hf;have hi:=zh (HB.out.trans (hd.mono hz));clear hf hd;go_wp2;go_roundw;case rel=>exact⟨j+1,by omega,by go_num,ho.out,hi.out⟩
     case measure=>simp[intOf];omega
    ·obtain rfl:j=k:=by omega
     have hb: ¬ (j:Int)<(j:Int):=by have:=hg.out;omega
     clear hlt hj;have hR:=HR.out;obtain⟨H,hH⟩:=lt_ (iterN (byL 10000) j (iterN (zAK m) (j+1) [2]));rw[hH] at hR;have hw:=HW.out;rw[hH] at hw;obtain⟨A,c,rfl,hy⟩:=hw;have ha:∀ u∈H,Word u:=by rw[<- hH];exact hC.out
     clear HR HW hH hC;unfold powE at hR;by_cases h1:1<H.length
     ·have hI:(1:Int)<(H.length:Int):=by omega
      rw[if_pos h1] at hR;subst hR;clear hy;go_wp2;go_returns;exact⟨rfl,HB.out⟩
     ·have hI: ¬ (1:Int)<(H.length:Int):=by omega
      rw[if_neg h1] at hR;have hh:Word (H.headD 0):=by
       cases H with
       | nil=>exact(by decide:0<18446744073709551616)
       | cons a t=>exact ha a (QO ..)
      obtain⟨h,hr⟩:=lt_ (H.headD 0);rw[hr] at hR hh;have HH:=zh hh;have hq:h / 2+h % 2<18446744073709551616:=by unfold Word at hh;omega
      have hl:=zh hr;have hA:=zh hy;have hF:=zh hR;unfold Word at hh;clear hr hy ha hR;go_wp2
      go_loop [75,9] (fun t u=>∃ j:Nat,j<=H.length/\t=.int .i64 j/\((j=0/\u=.int .u64 0)∨(0<j/\u=.int .u64 (h:Int)))) (fun t _=>H.length-(intOf t).toNat)
      case atStart=>exact⟨0,Q7 _,rfl,.inl ⟨rfl,rfl⟩⟩
      case round =>
       obtain⟨j,hj,rfl,hu⟩:=hrel;by_cases hlt:j<H.length
       ·obtain rfl:j=0:=by omega
        obtain rfl:=(hu.resolve_right (by omega)).2;obtain⟨b,off,rfl,_,hc⟩:=hA.out.2 hlt;have c0:=hc 0 _ (show (U H)[0]? =some (.int .u64 (h:Int)) by have:=hl.out;cases H with|nil=>simp at hlt|cons a t=>simp at this;simp[U,this]);clear hc hu;rw[QY] at c0;go_wp2;go_round;case rel=>exact⟨1,by omega,by go_num,.inr ⟨by omega,rfl⟩⟩
        case measure=>simp[intOf];omega
       ·have hJ:j=H.length:=by omega
        have hL:u9=.int .u64 (h:Int):=by
         rcases hu with ⟨h0,e⟩|⟨_,e⟩
         ·have h5:H=[]:=by cases H with|nil=>rfl|cons a t=>simp at hJ;omega
          have h6:=hl.out;rw[h5] at h6;rw[e,<-h6]
          rfl
         ·exact e
        subst hL;clear hu hlt hj hl hA;obtain⟨lb,hs⟩:=lt_ (lowX 0);have hD:=hF.out;rw[hs] at hD;subst hD;rw[hs];clear hs;cases lb;all_goals go_wp2_with(go_at_call 272;refine(signed_int (h / 2+h % 2) _ (by omega) hq _ _).mono ?_;rintro e w1 ⟨rfl,rfl⟩)
        all_goals go_returns;all_goals first|exact⟨rfl,HB.out⟩|(refine⟨?_,HB.out⟩;simp_all)
theorem power_down (x n:Int) (hx:Is64 x) (hm:x≠minI) (hz:x≠0) (hn0:n<0) (hn64: -64<=n) (w:World):Rt 198 #[.int .i64 x,.int .i64 n] w (.tuple #[.int .i64 (powX x n).1,.int .i64 (powX x n).2]):=by
 have k1:(x != minI)=true:=by simp[hm]
 obtain⟨k,hk⟩:∃ k:Nat,n= -(k:Int):=⟨(-n).toNat,by omega⟩
 obtain⟨m,hv⟩:=lt_ x.natAbs;have hG:Word m:=by unfold Is64 at hx;unfold Word;omega
 have hs:0<m:=by omega
 have hp:powX x n=powE (iterN (byL m) k (iterN (zAK 10000) (k+1) [2])) (lowX x&&n % 2 != 0):=by
  unfold powX powL;rw[if_neg hm,if_neg (show ¬ (n< -64∨64<n) by omega),if_neg (show ¬ n=0 by omega),if_neg (show ¬ (x=0/\n<0) by omega),if_neg (show ¬ 0<n by omega),hv,show (-n).toNat=k by omega,show (1-n).toNat=k+1 by omega]
 rw[hp];obtain⟨R,hR⟩:=lt_ (powE (iterN (byL m) k (iterN (zAK 10000) (k+1) [2])) (lowX x&&n % 2 != 0));rw[hR];have hg:=zh hk;have HR:=zh hR;have HX:=zh hx;have HM:=zh hv;have hJ:=zh hG;have hC:=zh hs;have hE:=zh (iter_by m hs _ (zBg 10000 word1e4 [2] word2 (k+1)).1 k).1;have hnx:Q3.wrap (1-n)=(k:Int)+1:=by rw[Q5];omega
 have hny:Q3.wrap (-n)=(k:Int):=by rw[Q5];omega
 have hn1: ¬ n< -64:=by omega
 have hn2: ¬ 64<n:=by omega
 have hn4: ¬ 0<n:=by omega
 have hn3: ¬ n=0:=by omega
 have hO:k<=64:=by omega
 have hz2:(x==0)=false:=by simp[hz]
 have ht:(n.tmod 2 != 0)=(n % 2 != 0):=by
  have h1:=Int.tmod_eq_emod (a:=n) (b:=2);rw[Bool.eq_iff_iff];simp only[bne_iff_ne,ne_eq];split at h1<;>omega
 have HT:=zh ht;clear hR hx hv hG hs hp hm hz hk ht;go_enter func198,ntmps198;go_wp2_with(first|(go_at_call 86;refine(zAX _ _).mono ?_;rintro e w1 ⟨rfl,rfl⟩)|(go_at_call 270;refine(zBP x HX.out _).mono ?_;rw[HM.out];rintro e w1 ⟨rfl,rfl⟩))
 go_loopw [57,8] (fun t v wr=>∃ j:Nat,j<=(k+1)/\t=.int .i64 j/\Words wr v (iterN (zAK 10000) j [2])/\Below w.heap.size w wr) (fun t _ _=>(k+1)-(intOf t).toNat)
 case atStart=>exact⟨0,Q7 _,rfl,words_new rfl,bel⟩
 case round =>
  obtain⟨j,hj,rfl,hW,hB⟩:=hrel;have HW:=zh hW;have HB:=zh hB;have hA:=hB.size;clear hW hB;by_cases hlt:j<(k+1)
  ·have hb:(j:Int)<(k:Int)+1:=by have:=hg.out;omega
   have he:=(show (∀ u∈iterN (zAK 10000) j [2],Word u)/\(iterN (zAK 10000) j [2]).length<=1+j from zBg 10000 word1e4 [2] word2 j)
   have HO:=zh he;clear he;go_wp2_with fail
   go_at_call 275
   refine(dec_times 10000 word1e4  _ HO.out.1 (by have h5:=HO.out.2;omega) _ _ HW.out).mono ?_;rintro e w1 ⟨⟨v1,rfl,hf⟩,hd⟩;have hn:=zh hf;have hi:=zh (HB.out.trans (hd.mono hA));clear hf hd;go_wp2;go_roundw;case rel=>exact⟨j+1,by omega,by go_num,hn.out,hi.out⟩
   case measure=>simp[intOf];omega
  ·obtain rfl:j=(k+1):=by omega
   have hb: ¬ (k:Int)+1<(k:Int)+1:=by have:=hg.out;omega
   clear hlt hj;have hL:=zh HW.out;have hI:=zh HB.out;clear HW HB;go_wp2
   go_loopw [64,8] (fun t v wr=>∃ j:Nat,j<=k/\t=.int .i64 j/\Words wr v (iterN (byL m) j (iterN (zAK 10000) (k+1) [2]))/\Below w.heap.size w wr) (fun t _ _=>k-(intOf t).toNat)
   case atStart=>exact⟨0,Q7 _,rfl,hL.out,hI.out⟩
   case round =>
    obtain⟨j,hj,rfl,hW,hB⟩:=hrel;have HW:=zh hW;have HB:=zh hB;have hA:=hB.size;clear hW hB;by_cases hlt:j<k
    ·have hb:(j:Int)<(k:Int):=by have:=hg.out;omega
     have he:=(show (∀ u∈_,Word u)/\(iterN (byL m) j (iterN (zAK 10000) (k+1) [2])).length<=1000 from by have h1:(∀ u∈iterN (zAK 10000) (k+1) [2],Word u)/\(iterN (zAK 10000) (k+1) [2]).length<=1+(k+1):=zBg 10000 word1e4 [2] word2 (k+1);have h2:=iter_by m hC.out _ h1.1 j;exact⟨h2.1,by have:=h1.2;have:=h2.2;omega⟩)
     have HO:=zh he;clear he;go_wp2_with fail
     go_at_call 276
     refine(dec_by m hJ.out hC.out  _ HO.out.1 (by have h5:=HO.out.2;omega) _ _ HW.out).mono ?_;rintro e w1 ⟨⟨v1,rfl,hf⟩,hd⟩;have hn:=zh hf;have hi:=zh (HB.out.trans (hd.mono hA));clear hf hd;go_wp2;go_roundw;case rel=>exact⟨j+1,by omega,by go_num,hn.out,hi.out⟩
     case measure=>simp[intOf];omega
    ·obtain rfl:j=k:=by omega
     have hb: ¬ (j:Int)<(j:Int):=by have:=hg.out;omega
     clear hlt hj;have hR:=HR.out;obtain⟨H,hH⟩:=lt_ (iterN (byL m) j (iterN (zAK 10000) (j+1) [2]));rw[hH] at hR;have hw:=HW.out;rw[hH] at hw;obtain⟨A,c,rfl,hy⟩:=hw;have ha:∀ u∈H,Word u:=by rw[<- hH];exact hE.out
     clear HR HW hH hE;unfold powE at hR;by_cases h1:1<H.length
     ·have hM:(1:Int)<(H.length:Int):=by omega
      rw[if_pos h1] at hR;subst hR;clear hy;go_wp2;go_returns;exact⟨rfl,HB.out⟩
     ·have hM: ¬ (1:Int)<(H.length:Int):=by omega
      rw[if_neg h1] at hR;have hh:Word (H.headD 0):=by
       cases H with
       | nil=>exact(by decide:0<18446744073709551616)
       | cons a t=>exact ha a (QO ..)
      obtain⟨h,ho⟩:=lt_ (H.headD 0);rw[ho] at hR hh;have HH:=zh hh;have hq:h / 2+h % 2<18446744073709551616:=by unfold Word at hh;omega
      have hl:=zh ho;have hD:=zh hy;have hK:=zh hR;unfold Word at hh;clear ho hy ha hR;go_wp2
      go_loop [75,9] (fun t u=>∃ j:Nat,j<=H.length/\t=.int .i64 j/\((j=0/\u=.int .u64 0)∨(0<j/\u=.int .u64 (h:Int)))) (fun t _=>H.length-(intOf t).toNat)
      case atStart=>exact⟨0,Q7 _,rfl,.inl ⟨rfl,rfl⟩⟩
      case round =>
       obtain⟨j,hj,rfl,hu⟩:=hrel;by_cases hlt:j<H.length
       ·obtain rfl:j=0:=by omega
        obtain rfl:=(hu.resolve_right (by omega)).2;obtain⟨b,off,rfl,_,hc⟩:=hD.out.2 hlt;have c0:=hc 0 _ (show (U H)[0]? =some (.int .u64 (h:Int)) by have:=hl.out;cases H with|nil=>simp at hlt|cons a t=>simp at this;simp[U,this]);clear hc hu;rw[QY] at c0;go_wp2;go_round;case rel=>exact⟨1,by omega,by go_num,.inr ⟨by omega,rfl⟩⟩
        case measure=>simp[intOf];omega
       ·have hN:j=H.length:=by omega
        have hP:u9=.int .u64 (h:Int):=by
         rcases hu with ⟨h0,e⟩|⟨_,e⟩
         ·have h5:H=[]:=by cases H with|nil=>rfl|cons a t=>simp at hN;omega
          have h6:=hl.out;rw[h5] at h6;rw[e,<-h6]
          rfl
         ·exact e
        subst hP;clear hu hlt hj hl hD;obtain⟨lb,hr⟩:=lt_ (lowX x);have hF:=hK.out;rw[hr] at hF;subst hF;rw[hr];clear hr;have ht:=HT.out;cases lb;all_goals go_wp2_with(go_at_call 272;refine(signed_int (h / 2+h % 2) _ (by omega) hq _ _).mono ?_;rintro e w1 ⟨rfl,rfl⟩)
        all_goals go_returns;all_goals first|exact⟨rfl,HB.out⟩|(refine⟨?_,HB.out⟩;simp_all)
theorem dec_Power (x n:Int) (hx:Is64 x) (hn:Is64 n) (w:World):Rt 198 #[.int .i64 x,.int .i64 n] w (.tuple #[.int .i64 (powX x n).1,.int .i64 (powX x n).2]):=by
 by_cases hm:x=minI
 have e:powX x n=(0,2):=if_pos hm;have k1:(x != minI)=false:=by simp[hm]
 rw[e];clear hx hm e
 rotate_left
 have k1:(x != minI)=true:=by simp[hm]
 by_cases hr:n< -64∨64<n
 have e:powX x n=(0,8):=by unfold powX;rw[if_neg hm,if_pos hr]
 rw[e];by_cases hb:n< -64
 clear hx hm e hr
 rotate_left
 have ha:64<n:=by omega
 clear hx hm e hr
 rotate_left
 have hb: ¬ n< -64:=by omega
 have ha: ¬ 64<n:=by omega
 by_cases h0:n=0
 have e:powX x n=(10000,0):=by unfold powX;rw[if_neg hm,if_neg hr,if_pos h0]
 rw[e];clear hx hm e hr
 rotate_left
 by_cases hz:x=0
 subst hz;by_cases hneg:n<0
 have e:powX 0 n=(0,3):=by unfold powX;rw[if_neg hm,if_neg hr,if_neg h0,if_pos ⟨rfl,hneg⟩]
 rw[e];clear hx hm e hr
 rotate_left
 ·exact power_nought n (by omega) (by omega) w
 ·by_cases hneg:n<0
  ·exact power_down x n hx hm hz hneg (by omega) w
  ·exact power_up x n hx hm hz (by omega) (by omega) w
 all_goals
  go_enter func198,ntmps198;go_wp2_with(go_at_call 86;refine(zAX _ _).mono ?_;rintro e w1 ⟨rfl,rfl⟩)
  go_returns;exact rb_
theorem ints_get {l:List Nat} {j:Nat} (h:j<l.length):(Ints l)[j]? =some (.int .i64 ((l.getD j 0:Nat):Int)):=by
 unfold Ints;rw[Qz,QM,Q4 h]
 rfl
theorem ints_set (l:List Nat) (j x:Nat):(Ints l).set j (.int .i64 ((x:Nat):Int))=Ints (l.set j x):=by
 unfold Ints;rw[List.map_set]
theorem Row.get {w:World} {A:Option Addr} {n c:Nat} {l:List Nat} (h:Row w (.slice A n c) l) {j:Nat} (hj:j<l.length):∃ g,A=some ⟨g,0,none⟩/\g<w.heap.size/\w.cell? ⟨g,j,none⟩=some (.int .i64 ((l.getD j 0:Nat):Int)):=by
 obtain⟨A',c',e,hc,h⟩:=h;cases e;obtain⟨g,rfl,hg,hx⟩:=h (by omega);refine⟨g,rfl,hg,hx j ?_⟩;rw[QM,Q4 hj]
 rfl
theorem row_of_at {w:World} {g n c:Nat} {l:List Nat} (h:AtB w g (Ints l)) (hn:l.length=n) (hc:n<=c) (hg:g<w.heap.size):Row w (.slice (some ⟨g,0,none⟩) n c) l :=
 ⟨_,c,by rw[hn],by omega,fun _=>⟨g,rfl,hg,fun j x hj=>h j _ (by unfold Ints;rw[Qz,hj];rfl)⟩⟩
theorem w64_small {x:Nat} (h:x<1000000000):wrap64 (x:Int)=(x:Int):=by unfold wrap64;omega
theorem zBU {x:Nat} (h:x<1000000000):Q3.wrap (x:Int)=(x:Int):=by rw[Q5];omega
theorem wi_add {x y z:Nat} (hz:x+y=z) (h:z<1000000000):Q3.wrap ((x:Int)+(y:Int))=(z:Int):=by
 rw[<- Int.natCast_add,hz,zBU h]
theorem wi_mul {x y z:Nat} (hz:x*y=z) (h:z<1000000000):Q3.wrap ((x:Int)*(y:Int))=(z:Int):=by
 rw[<- Int.natCast_mul,hz,zBU h]
theorem tmod_nat {x m r:Nat} (h:x % m=r):(x:Int).tmod (m:Int)=(r:Int):=by
 rw[Int.tmod_eq_emod_of_nonneg (Qv _),<-Int.natCast_emod,h]
theorem zAt {x m r:Nat} (h:x / m=r):(x:Int).tdiv (m:Int)=(r:Int):=by
 rw[Int.tdiv_eq_ediv_of_nonneg (Qv _),<-Int.natCast_ediv,h]
theorem mul_small {x u:Nat} (hx:x<10000) (hu:u<10000):x*u<=99980001:=by
 have:x*u<=9999*9999:=Nat.mul_le_mul (by omega) (by omega);omega
theorem r1_product (a b:Nat) (va vb:Value) (hal:(digs a).length<=1000) (hbl:(digs b).length<=1000) (w:World) (h1:Row w va (digs a)) (h2:Row w vb (digs b)):Calls prog 156 #[va,vb] w fun e w'=>∃ v',e=.returned v'/\Row w' v' (digs (a*b))/\Below w.heap.size w w':=by
 obtain⟨i0,hi,hR,hM,hS⟩:=info_parts infoInt;have HE:=zh (fun L=> @pinv_end (digs a) (digs b) L);rw[zAl,zAl] at HE;have ho:=zAs a;have ht:=zAs b;obtain⟨T,hT⟩:=lt_ (digs (a*b));rw[hT] at HE ⊢;obtain⟨A,hA⟩:=lt_ (digs a);obtain⟨B,hB⟩:=lt_ (digs b);rw[hA] at hal h1 HE ho;rw[hB] at hbl h2 HE ht;clear hA hB hT;obtain⟨PA,ca,rfl,hF,-⟩:=id h1;obtain⟨PB,cb,rfl,hG,-⟩:=id h2;have H1:=zh h1;have H2:=zh h2;have HA:=zh ho;have HB:=zh ht;obtain⟨n,hn⟩:=lt_ A.length;obtain⟨m,hm⟩:=lt_ B.length;rw[hn] at hal hF;rw[hm] at hbl hG;rw[hn,hm];have HN:=zh hn;have HM:=zh hm;obtain⟨s,hs⟩:=lt_ (n+m);have w0:Q3.wrap ((n:Int)+(m:Int))=(s:Int):=by rw[Q5];omega
 have HS:=zh hs;have hs2:s<=2000:=by omega
 have hE:=zh (pinv_start A B);rw[hn,hm,hs] at hE;have hO:∀ w,(Instr.makeSlice 94 (.int .i64 ((s:Nat):Int)) (.int .i64 ((s:Nat):Int))).run prog w=.ok (.slice (some ⟨w.heap.size,0,none⟩) s s) (w.alloc (.cells (madeCells #[.int .i64 0] s) 3)):=fun w=>by
  have h:=run_makeSlice (P:=prog) (w:=w) 94 3 i0 (.int .i64 0) underlying94 hi hR .i64 .i64 s s (by omega) (Int.le_refl _) (by rw[hM];omega) (by rw[hS];omega) (by omega)
  simpa [hM,Value.cells] using h
 clear h1 h2 ho ht hs hn hm hF hG;go_enter func156,ntmps156;go_wp2
 go_loopw [6] (fun t wr=>∃ (i:Nat) (L:List Nat),i<=n/\t=.int .i64 (i:Int)/\RowKit.Hid (PInv A B i 0 L 0)/\RowKit.Hid (AtB wr w.heap.size (Ints L))/\RowKit.Hid (∀ j,wr.frozen? ⟨w.heap.size,j,none⟩=false)/\w.heap.size<wr.heap.size/\RowKit.Hid (Below w.heap.size w wr)) (fun t _=>n-(intOf t).toNat)
 case atStart =>
  refine⟨0,_,Q7 _,rfl,hE,zh ?_,zh fun i=>frozen_of_row _ _ _ _ _ (heap_alloc_new w _),by simp,zh bel⟩;have h:=AtB.new (w:=w) (cs:=madeCells #[.int .i64 0] s) (t:=3) rfl;rw[Go.toList_madeCells_one] at h
  simpa [Ints] using h
 case round =>
  obtain⟨i,L,hin,rfl,hP,hb,hf,hd,hc⟩:=hrel;clear w0 hO;by_cases hi0:i=n
  ·subst hi0;have hL:L.length=s:=by have:=hP.out.1;rw[HN.out,HM.out,HS.out] at this;exact this
   have he:=HE.out L (by rw[HN.out];exact hP.out);have HC:=zh (r1_cut L (.slice (some ⟨w.heap.size,0,none⟩) s s) (by omega) wr (row_of_at hb.out hL (Q8 _) hd));rw[he] at HC;clear hL he;go_wp2_with(go_at_call 256;refine HC.out.mono ?_;rintro e w1 ⟨v',rfl,hv,rfl⟩)
   go_returns;exact⟨_,rfl,hv,hc.out⟩
  ·have hw:i<n:=by omega
   obtain⟨g,rfl,hg,ca⟩:=H1.out.get (j:=i) (by rw[HN.out];exact hw);obtain⟨x,hx⟩:=lt_ (A.getD i 0);have hJ:x<10000:=by rw[<- hx];exact low_get HA.out i
   rw[hx] at ca;have HX:=zh hx;have CA:=zh ca;clear hx ca hi0;go_wp2
   go_loopw [7,8] (fun p t wv=>∃ (k o:Nat) (L:List Nat),k<=m/\p=.int .i64 (o:Int)/\t=.int .i64 (k:Int)/\RowKit.Hid (PInv A B i k L o)/\RowKit.Hid (AtB wv w.heap.size (Ints L))/\RowKit.Hid (∀ j,wv.frozen? ⟨w.heap.size,j,none⟩=false)/\w.heap.size<wv.heap.size/\RowKit.Hid (Below w.heap.size w wv)) (fun _ t _=>m-(intOf t).toNat)
   case atStart=>exact⟨0,0,L,Q7 _,rfl,rfl,hP,hb,hf,hd,hc⟩
   case round =>
    clear hP hb hf hd hc;clear L;obtain⟨k,o,L,hkm,rfl,rfl,hP,hb,hf,hd,hc⟩:=hrel;have hL:L.length=s:=by have:=hP.out.1;rw[HN.out,HM.out,HS.out] at this;exact this
    have hI:=HS.out;by_cases hk0:k=m
    ·subst hk0;obtain⟨z,hz⟩:=lt_ (i+k);have hU:z<s:=by omega
     have wz:Q3.wrap ((i:Int)+(k:Int))=(z:Int):=by rw[Q5];omega
     have wi:Q3.wrap ((i:Int)+1)=((i+1:Nat):Int):=by rw[Q5];omega
     have ha:=hP.out;rw[<- HM.out] at ha;have hk:=zh (pinv_next ha (by rw[HN.out];exact hw));rw[HM.out,hz] at hk;have d0:=hb.out z _ (ints_get (by omega));have f0:=hf.out z;have hh:=zh (atB_set (i:=z) hb.out (by unfold Ints;rw[List.length_map];omega) (.int .i64 (o:Int)));rw[ints_set] at hh;obtain⟨y,hy⟩:=lt_ (L.getD z 0);rw[hy] at d0;clear hz hy hL hI ha;go_wp2;go_roundw;case rel=>exact⟨i+1,_,by omega,rfl,hk,hh,zh (fun j=>(Ql _ _ _ _).trans (hf.out j)),by simpa using hd,zh (by have hB:=hc.out;exact bel)⟩
     case measure=>simp[intOf];omega
    ·have hj:k<m:=by omega
     obtain⟨g2,rfl,hN,cb⟩:=H2.out.get (j:=k) (by rw[HM.out];exact hj);obtain⟨z,hz⟩:=lt_ (i+k);have hU:z<s:=by omega
     have lk:k+1<1000000000:=by omega
     have lz:z<1000000000:=by omega
     have ha:=pinv_step hP.out (by rw[HN.out];exact hw) (by rw[HM.out];exact hj) HA.out HB.out;rw[hz,HX.out] at ha;have hl:B.getD k 0<10000:=low_get HB.out k;have hQ:o<10000:=hP.out.2.2.1;have hH:L.getD z 0<10000:=low_get hP.out.2.1 z;have d0:=hb.out z _ (ints_get (by omega));have f0:=hf.out z;have c1:=(hc.out.cell (p:=⟨g,i,none⟩) hg).trans CA.out;have c2:=(hc.out.cell (p:=⟨g2,k,none⟩) hN).trans cb;obtain⟨y,hy⟩:=lt_ (L.getD z 0);obtain⟨u,hu⟩:=lt_ (B.getD k 0);rw[hy] at d0 ha hH;rw[hu] at c2 ha hl;have hK:=mul_small hJ hl;obtain⟨p,hp⟩:=lt_ (x*u);rw[hp] at ha hK;obtain⟨t1,hC⟩:=lt_ (o+y);rw[hC] at ha;obtain⟨t2,hD⟩:=lt_ (t1+p);have l1:t1<20000:=by omega
     have l2:t2<100000000:=by omega
     have l3:p<1000000000:=by omega
     have l4:t1<1000000000:=by omega
     have l5:t2<1000000000:=by omega
     rw[hD] at ha;obtain⟨r,hr⟩:=lt_ (t2 % 10000);obtain⟨q,hq⟩:=lt_ (t2 / 10000);have lr:r<10000:=by rw[<- hr];exact QR _ (by decide)
     have lq:q<100000000:=by rw[<- hq];exact Qw (Nat.div_le_self _ _) l2
     have l6:r<1000000000:=by omega
     have l7:q<1000000000:=by omega
     have m1:(t2:Int).tmod 10000=(r:Int):=tmod_nat hr;have m2:(t2:Int).tdiv 10000=(q:Int):=zAt hq;rw[hr,hq] at ha;have hk:=zh ha;have hh:=zh (atB_set (i:=z) hb.out (by unfold Ints;rw[List.length_map];omega) (.int .i64 (r:Int)));rw[ints_set] at hh;have wz:=wi_add hz lz;have wk:Q3.wrap ((k:Int)+1)=((k+1:Nat):Int):=zBU lk;have wp:=wi_mul hp l3;have w1:=wi_add hC l4;have w2:=wi_add hD l5;have m3:=w64_small l6;have m4:=w64_small l7;have m7:=zBU l6;have m8:=zBU l7;clear hz hy hL hI ha hk0 hu hp hC hD hr hq cb CA l3 l4 l5 l6 l7 l1 l2 lr lq lk lz hK hJ hl hQ hH;go_wp2;go_quiet (fail);go_wp2;go_roundw;case rel=>exact⟨k+1,q,_,by omega,rfl,rfl,hk,hh,zh (fun j=>(Ql _ _ _ _).trans (hf.out j)),by simpa using hd,zh (by have hB:=hc.out;exact bel)⟩
     case measure=>simp[intOf];omega
theorem low_nil:Low []:=fun a h=>absurd h Qg
theorem low_snoc {l:List Nat} {x:Nat} (h:Low l) (hx:x<10000):Low (l++[x]):=fun a ha=>by
 rcases Qk.1 ha with h1|h1
 ·exact h a h1
 ·rw[QN.1 h1];exact hx
theorem getD_out {l:List Nat} {j:Nat} (h:l.length<=j):l.getD j 0=0:=by
 rw[QM,Qm h]
 rfl
theorem val_take' (l:List Nat) (k:Nat):valL (l.take (k+1))=valL (l.take k)+10000 ^ k*l.getD k 0:=by
 by_cases h:k<l.length
 ·exact val_take l k h
 ·rw[getD_out (by omega),QA (by omega),QA (by omega)]
  rfl
def LInv (A B:List Nat) (i u:Nat) (acc:List Nat):Prop :=
 acc.length=i/\Low acc/\u<=1/\valL acc+valL (B.take i)=valL (A.take i)+u*10000 ^ i
theorem linv_start (A B:List Nat):LInv A B 0 0 []:=⟨rfl,low_nil,by decide,by simp[valL]⟩
theorem linv_step {A B acc:List Nat} {i u x u2:Nat} (h:LInv A B i u acc) (hx:x<10000) (hu:u2<=1) (he:x+u+B.getD i 0=A.getD i 0+10000*u2):LInv A B (i+1) u2 (acc++[x]):=by
 obtain⟨h1,h2,h3,h4⟩:=h;refine⟨by simp[h1],low_snoc h2 hx,hu,?_⟩;rw[val_snoc,h1,val_take',val_take',Q9];have f:=congrArg (fun z=>10000 ^ i*z) he;simp only[QF] at f;have f2:10000 ^ i*(10000*u2)=u2*(10000 ^ i*10000):=by rw[QD u2,QC]
 have f3:u*10000 ^ i=10000 ^ i*u:=QD _ _;omega
theorem linv_end {A B acc:List Nat} {u:Nat} (h:LInv A B A.length u acc) (hB:B.length<=A.length) (hle:valL B<=valL A):cutL acc=digs (valL A-valL B):=by
 obtain⟨h1,h2,h3,h4⟩:=h;rw[cut_digs acc h2]
 congr 1
 have hv:=val_lt acc h2;rw[h1] at hv;rw[Z5,QA hB] at h4;have hu:u=0∨u=1:=by omega
 rcases hu with rfl|rfl<;>omega
theorem digs_le_len {a b:Nat} (h:a<=b):(digs a).length<=(digs b).length:=by
 have hb:=val_lt (digs b) (zAs b);rw[zAl] at hb;exact zB6 _ _ (Qw h hb)
def NInv (A:List Nat) (i o:Nat) (acc:List Nat):Prop :=
 acc.length=i/\Low acc/\o<=1/\valL acc+o*10000 ^ i=valL (A.take i)+1
theorem ninv_start (A:List Nat):NInv A 0 1 []:=⟨rfl,low_nil,by decide,by simp[valL]⟩
theorem ninv_step {A acc:List Nat} {i o:Nat} (h:NInv A i o acc) (hA:Low A):NInv A (i+1) ((A.getD i 0+o) / 10000) (acc++[(A.getD i 0+o) % 10000]):=by
 obtain⟨h1,h2,h3,h4⟩:=h;have hx:=low_get hA i;refine⟨by simp[h1],low_snoc h2 (QR _ (by decide)),by omega,?_⟩;rw[val_snoc,h1,val_take',Q9];have d:=QB (A.getD i 0+o) 10000;generalize (A.getD i 0+o) / 10000=q at *;generalize (A.getD i 0+o) % 10000=r at *;have f:=congrArg (fun z=>10000 ^ i*z) d;simp only[QF] at f;have f2:10000 ^ i*(10000*q)=q*(10000 ^ i*10000):=by rw[QD q,QC]
 have f3:o*10000 ^ i=10000 ^ i*o:=QD _ _;omega
theorem ninv_end {A acc:List Nat} {o:Nat} (h:NInv A A.length o acc):cutL (acc++[o])=digs (valL A+1):=by
 obtain⟨h1,h2,h3,h4⟩:=h;rw[cut_digs _ (low_snoc h2 (by omega)),val_snoc,h1]
 congr 1
 rw[Z5] at h4;rw[<- h4,QD]
theorem val_drop (l:List Nat) (k:Nat) (h:k<l.length):valL (l.drop k)=l.getD k 0+10000*valL (l.drop (k+1)):=by
 rw[Qe h,valL,QM,Q4 h]
 rfl
theorem val_drop_le (l:List Nat) (k:Nat):valL (l.drop k)<=valL l:=by
 have e:l=l.take k++l.drop k:=(List.take_append_drop k l).symm;have h:valL l=valL (l.take k)+10000 ^ (l.take k).length*valL (l.drop k):=by
  conv=>lhs;rw[e]
  rw[valL_append]
 have hp:1*valL (l.drop k)<=10000 ^ (l.take k).length*valL (l.drop k):=QV _ (QU (by decide));omega
theorem digs_great {n:Nat} (h:5<(digs n).length):9223372036854775807<n:=by
 have h0:n≠0:=fun e=>by subst e;simp[digs_zero] at h
 have h1:=digs_low n h0;have h2:10000 ^ 6<=10000 ^ (digs n).length:=QH (by decide) h;omega
theorem zAH {x:Nat} (h:x<18446744073709551616):Qc.wrap (x:Int)=(x:Int):=by rw[QI];omega
def smallX (n:Nat):Nat×Bool:=if n<=9223372036854775807 then (n,true) else (0,false)
theorem small_no {n:Nat} (h:9223372036854775807<n):smallX n=(0,false):=if_neg (by omega)
theorem small_step {A:List Nat} {j:Nat} (hj:j<A.length) (hA:Low A) (hb:valL (A.drop (j+1))<=9223372036854775807) :
  ((9223372036854775807-A.getD j 0) / 10000<valL (A.drop (j+1))->9223372036854775807<valL A) /\
  (¬ (9223372036854775807-A.getD j 0) / 10000<valL (A.drop (j+1))->valL (A.drop (j+1))*10000+A.getD j 0=valL (A.drop j)/\valL (A.drop j)<=9223372036854775807):=by
 have h1:=val_drop A j hj;have h2:=val_drop_le A j;have h3:=low_get hA j;constructor
 ·intro h;omega
 ·intro h;omega
theorem r1_small (n:Nat) (v:Value) (hl:(digs n).length<=1000) (w:World) (h:Row w v (digs n)):Calls prog 163 #[v] w fun e w'=>e=.returned (.tuple #[.int .u64 ((smallX n).1:Int),.bool (smallX n).2])/\w'=w:=by
 by_cases hg:5<(digs n).length
 ·rw[small_no (digs_great hg)];obtain⟨A,c,rfl,hc,hx⟩:=h;obtain⟨m,hm⟩:=lt_ ((digs n).length);rw[hm] at hg ⊢;have ho:(5:Int)<(m:Int):=by omega
  clear hm hc hx hl;go_enter func163,ntmps163;go_wp2;go_returns;exact⟨rfl,rfl⟩
 ·have hv:=zAl n;have hh:=zAs n;have HR:=zh h;obtain⟨P,c,rfl,hc,-⟩:=id h;clear h;obtain⟨A,hA⟩:=lt_ (digs n);rw[hA] at hv hh HR hg;obtain⟨m,hm⟩:=lt_ A.length;rw[hA];rw[hm] at hg ⊢;have ho: ¬ (5:Int)<(m:Int):=by omega
  have w0:Q3.wrap ((m:Int)-1)=(m:Int)-1:=by rw[Q5];omega
  have HM:=zh hm;have HV:=zh hv;have HL:=zh hh;obtain⟨R,hd⟩:=lt_ (smallX n);rw[hd];have H0:=zh hd;clear hA hm hv hh hc hl hd;go_enter func163,ntmps163;go_wp2;clear w0
  go_loopw [5,4] (fun t u wr=>∃ k:Nat,k<=m/\t=.int .i64 ((k:Int)-1)/\u=.int .u64 ((valL (A.drop k):Nat):Int)/\RowKit.Hid (valL (A.drop k)<=9223372036854775807)/\wr=w) (fun t _ _=>(intOf t+1).toNat)
  case atStart =>
   refine⟨m,Q8 _,by go_num,?_,zh ?_,rfl⟩
   ·rw[QE (Qx HM.out)];rfl
   ·rw[QE (Qx HM.out)];decide
  case round =>
   obtain⟨k,hk,rfl,rfl,hb,rfl⟩:=hrel;by_cases hk0:k=0
   ·subst hk0;have he:=hb.out;rw[Qo,HV.out] at he;rw[Qo,HV.out];obtain rfl:R=(n,true):=by rw[<- H0.out];exact if_pos he
    clear he;go_wp2;go_returns;exact⟨rfl,rfl⟩
   ·obtain⟨j,rfl⟩:∃ j,k=j+1:=⟨k-1,by omega⟩
    obtain⟨g,rfl,hg1,c1⟩:=HR.out.get (j:=j) (by rw[HM.out];omega);have hs:=small_step (A:=A) (j:=j) (by rw[HM.out];omega) HL.out hb.out;have ht:=low_get HL.out j;have hf:=hb.out;rw[HV.out] at hs;obtain⟨x,hx⟩:=lt_ (A.getD j 0);obtain⟨q,hq⟩:=lt_ (valL (A.drop (j+1)));obtain⟨r,hr⟩:=lt_ (valL (A.drop j));rw[hx] at hs c1 ht;rw[hq] at hs hf ⊢;rw[hr] at hs;obtain⟨z,hz⟩:=lt_ ((9223372036854775807-x) / 10000);rw[hz] at hs;have hz1:((9223372036854775807-x:Nat):Int) / 10000=(z:Int):=by omega
    have hz2:((9223372036854775807-x:Nat):Int).tdiv 10000=(z:Int):=zAt hz;have hn:z<18446744073709551616:=by omega
    have ek:((j+1:Nat):Int)-1=(j:Int):=by omega
    rw[ek];have k0:(0:Int)<=(j:Int):=by omega
    have hjm:(j:Int)<(m:Int):=by omega
    by_cases hlt:z<q
    ·obtain rfl:R=(0,false):=by rw[<- H0.out];exact small_no (hs.1 hlt)
     have hi:(z:Int)<(q:Int):=by omega
     have lx:x<18446744073709551616:=by omega
     have l1:9223372036854775807-x<18446744073709551616:=by omega
     have wx:=zAH lx;have wy:Qc.wrap ((9223372036854775807:Int)-(x:Int))=((9223372036854775807-x:Nat):Int):=by rw[QI];omega
     have wz:=zAH hn;clear hs hz hx hq hr hf lx l1 hk0 ek;go_wp2;go_returns;exact⟨rfl,rfl⟩
    ·obtain⟨hp,hj⟩:=hs.2 hlt;have hi: ¬ (z:Int)<(q:Int):=by omega
     have lx:x<18446744073709551616:=by omega
     have lq:q*10000<18446744073709551616:=by omega
     have lr:r<18446744073709551616:=by omega
     have lj:(j:Int)-1=((j:Nat):Int)-1:=rfl;have wx:=zAH lx;have wy:Qc.wrap ((9223372036854775807:Int)-(x:Int))=((9223372036854775807-x:Nat):Int):=by rw[QI];omega
     have wq:Qc.wrap ((q:Int)*10000)=((q*10000:Nat):Int):=by rw[QI];omega
     have wr1:Qc.wrap (((q*10000:Nat):Int)+(x:Int))=(r:Int):=by rw[QI];omega
     have wz:=zAH hn;have wj:Q3.wrap ((j:Int)-1)=(j:Int)-1:=by rw[Q5];omega
     have ha:=zh (And.intro hr hj);have HE:=zh (show (q:Int)*10000+(x:Int)=(r:Int) by omega);clear hs hp hj hz hx hq hr hf lx lq lr hk0 ek;go_wp2;go_roundw;case rel=>exact⟨j,by omega,rfl,by rw[ha.out.1,HE.out],zh (by rw[ha.out.1];exact ha.out.2),trivial⟩
     case measure=>simp[intOf]
theorem wi_mid {x:Int} (h: -1000000<x/\x<1000000):Q3.wrap x=x:=by rw[Q5];omega
theorem r1_less (a b:Nat) (hle:b<=a) (va vb:Value) (hal:(digs a).length<=1000) (w:World) (h1:Row w va (digs a)) (h2:Row w vb (digs b)):Calls prog 258 #[va,vb] w fun e w'=>∃ v',e=.returned v'/\Row w' v' (digs (a-b))/\Below w.heap.size w w':=by
 obtain⟨i0,hi,hw,hz,hC⟩:=info_parts infoInt;have HE:=zh (fun acc u h=> @linv_end (digs a) (digs b) acc u h (digs_le_len hle) (by rw[zAl,zAl];exact hle));rw[zAl,zAl] at HE;have ho:=digs_le_len hle;have hq:=zAs a;have hr:=zAs b;obtain⟨T,hT⟩:=lt_ (digs (a-b));rw[hT] at HE ⊢;obtain⟨A,hA⟩:=lt_ (digs a);obtain⟨B,hB⟩:=lt_ (digs b);rw[hA] at hal h1 HE hq ho;rw[hB] at h2 HE hr ho;clear hA hB hT hle;obtain⟨PA,ca,rfl,hD,-⟩:=id h1;obtain⟨PB,cb,rfl,hE,-⟩:=id h2;have H1:=zh h1;have H2:=zh h2;have HA:=zh hq;have HB:=zh hr;obtain⟨n,hn⟩:=lt_ A.length;obtain⟨m,hm⟩:=lt_ B.length;rw[hn] at hal hD ho HE;rw[hm] at hE ho;rw[hn,hm];have HN:=zh hn;have HM:=zh hm;have hF:=zh (linv_start A B);clear h1 h2 hq hr hn hm hD hE;go_enter func258,ntmps258;go_wp2
 go_loopw [5,6,7] (fun v u t wr=>∃ (i o:Nat) (acc:List Nat),i<=n/\u=.int .i64 (o:Int)/\t=.int .i64 (i:Int)/\RowKit.Hid (LInv A B i o acc)/\wr.ownsRow w.heap.size 3 1 v acc.length (Ints acc)/\Below w.heap.size w wr) (fun _ _ t _=>n-(intOf t).toNat)
 case atStart=>exact⟨0,0,[],Q7 _,rfl,rfl,hF,Qd _ _ _ _,bel⟩
 case round =>
  obtain⟨i,o,acc,hin,rfl,rfl,hP,hc,hB⟩:=hrel;have hml:maxLen=9223372036854775807:=by decide
  have hl:=hP.out.1;by_cases hi0:i=n
  ·subst hi0;have he:=HE.out acc o hP.out;have HC:=zh (fun v w h=>r1_cut acc v (by omega) w h);rw[he] at HC;clear he hl;go_wp2_with(go_at_call 256;refine(HC.out _ _ (zBL hc)).mono ?_;rintro e w1 ⟨v',rfl,hv,rfl⟩)
   go_returns;exact⟨_,rfl,hv,hB⟩
  have hI:i<n:=by omega
  obtain⟨g,rfl,hg,ca⟩:=H1.out.get (j:=i) (by rw[HN.out];exact hI);have hp:=low_get HA.out i;have hh:=fun x u2=>linv_step (x:=x) (u2:=u2) hP.out;obtain⟨x,hx⟩:=lt_ (A.getD i 0);rw[hx] at ca hp hh;have c1:=(hB.cell (p:=⟨g,i,none⟩) hg).trans ca;have hs:o<=1:=hP.out.2.2.1;have HI:=zh (show acc.length<=1000 by omega);have li:i+1<1000000000:=by omega
  obtain⟨d,hd⟩:=lt_ ((x:Int)-(o:Int));have ld: -1000000<d/\d<1000000:=by omega
  by_cases hk:i<m
  obtain⟨g2,rfl,hG,cb⟩:=H2.out.get (j:=i) (by rw[HM.out];exact hk);have ht:=low_get HB.out i;obtain⟨y,hy⟩:=lt_ (B.getD i 0);rw[hy] at cb ht hh;have c2:=(hB.cell (p:=⟨g2,i,none⟩) hG).trans cb;have hH:(i:Int)<(m:Int):=by omega
  obtain⟨e,he⟩:=lt_ (d-(y:Int));have le: -1000000<e/\e<1000000:=by omega
  by_cases hneg:e<0
  obtain⟨f,hf⟩:∃ f:Nat,e+10000=(f:Int):=⟨(e+10000).toNat,by omega⟩
  have lf: -1000000<e+10000/\e+10000<1000000:=by omega
  have HS:=zh (hh f 1 (by omega) (by omega) (by omega));have wd:Q3.wrap ((x:Int)-(o:Int))=d:=by rw[hd];exact wi_mid ld
  have we:Q3.wrap (d-(y:Int))=e:=by rw[he];exact wi_mid le
  have wf:Q3.wrap (e+10000)=(f:Int):=by rw[wi_mid lf,hf]
  clear he le hf lf hy cb ht
  rotate_left
  ·obtain⟨f,rfl⟩:∃ f:Nat,e=(f:Int):=⟨e.toNat,by omega⟩
   have HS:=zh (hh f 0 (by omega) (by omega) (by omega));have wd:Q3.wrap ((x:Int)-(o:Int))=d:=by rw[hd];exact wi_mid ld
   have we:Q3.wrap (d-(y:Int))=(f:Int):=by rw[he];exact wi_mid le
   clear he le hy cb ht;have wi:Q3.wrap ((i:Int)+1)=((i+1:Nat):Int):=zBU li;clear hh hd ld li hs hp hx ca hi0 hl;go_wp2_with(at_builtin;refine wpList_append_own _ rfl _ _ 94 rfl w.heap.size 3 i0 (.int .i64 0) 1 8 underlying94 hi hw hz hC rfl (by decide) _ _ _ rfl (hc.alloc _) ⟨wr.heap.size,0,none⟩ 1 1 [.int .i64 ((f:Nat):Int)] rfl rfl (fun j u hu=>zBp (by simp) j u hu) (fun u hu=>by simp at hu;subst hu;rfl) (by have:=HI.out;omega) (by have:=HI.out;omega) (by have:=hB.size;simp;omega) ?_;intro v' w1 hb ha _;have hj:=(hB.alloc hB.size (.cells #[.int .i64 (f:Int)] 3)).grown ha (by have:=hB.size;simp;omega) (fun k hk=>(hc.lt k hk).1))
   refine⟨⟨i+1,0,acc++[f],by omega,rfl,rfl,HS,by simpa [Ints] using hb,hj⟩,by simp[intOf];omega⟩
  have hH: ¬ (i:Int)<(m:Int):=by omega
  rw[getD_out (l:=B) (j:=i) (by rw[HM.out];omega)] at hh;by_cases hneg:d<0
  obtain⟨f,hf⟩:∃ f:Nat,d+10000=(f:Int):=⟨(d+10000).toNat,by omega⟩
  have lf: -1000000<d+10000/\d+10000<1000000:=by omega
  have HS:=zh (hh f 1 (by omega) (by omega) (by omega));have wd:Q3.wrap ((x:Int)-(o:Int))=d:=by rw[hd];exact wi_mid ld
  have wf:Q3.wrap (d+10000)=(f:Int):=by rw[wi_mid lf,hf]
  clear hf lf
  rotate_left
  ·obtain⟨f,rfl⟩:∃ f:Nat,d=(f:Int):=⟨d.toNat,by omega⟩
   have HS:=zh (hh f 0 (by omega) (by omega) (by omega));have wd:Q3.wrap ((x:Int)-(o:Int))=(f:Int):=by rw[hd];exact wi_mid ld
   have wi:Q3.wrap ((i:Int)+1)=((i+1:Nat):Int):=zBU li;clear hh hd ld li hs hp hx ca hi0 hl;go_wp2_with(at_builtin;refine wpList_append_own _ rfl _ _ 94 rfl w.heap.size 3 i0 (.int .i64 0) 1 8 underlying94 hi hw hz hC rfl (by decide) _ _ _ rfl (hc.alloc _) ⟨wr.heap.size,0,none⟩ 1 1 [.int .i64 ((f:Nat):Int)] rfl rfl (fun j u hu=>zBp (by simp) j u hu) (fun u hu=>by simp at hu;subst hu;rfl) (by have:=HI.out;omega) (by have:=HI.out;omega) (by have:=hB.size;simp;omega) ?_;intro v' w1 hb ha _;have hj:=(hB.alloc hB.size (.cells #[.int .i64 (f:Int)] 3)).grown ha (by have:=hB.size;simp;omega) (fun k hk=>(hc.lt k hk).1))
   refine⟨⟨i+1,0,acc++[f],by omega,rfl,rfl,HS,by simpa [Ints] using hb,hj⟩,by simp[intOf];omega⟩
  all_goals
   have wi:Q3.wrap ((i:Int)+1)=((i+1:Nat):Int):=zBU li;clear hh hd ld li hs hp hx ca hi0 hl;go_wp2_with(at_builtin;refine wpList_append_own _ rfl _ _ 94 rfl w.heap.size 3 i0 (.int .i64 0) 1 8 underlying94 hi hw hz hC rfl (by decide) _ _ _ rfl (hc.alloc _) ⟨wr.heap.size,0,none⟩ 1 1 [.int .i64 ((f:Nat):Int)] rfl rfl (fun j u hu=>zBp (by simp) j u hu) (fun u hu=>by simp at hu;subst hu;rfl) (by have:=HI.out;omega) (by have:=HI.out;omega) (by have:=hB.size;simp;omega) ?_;intro v' w1 hb ha _;have hj:=(hB.alloc hB.size (.cells #[.int .i64 (f:Int)] 3)).grown ha (by have:=hB.size;simp;omega) (fun k hk=>(hc.lt k hk).1))
   refine⟨⟨i+1,1,acc++[f],by omega,rfl,rfl,HS,by simpa [Ints] using hb,hj⟩,by simp[intOf];omega⟩
theorem r1_next (A:List Nat) (hlA:Low A) (va:Value) (hal:A.length<=1000) (w:World) (h1:Row w va A):Calls prog 164 #[va] w fun e w'=>∃ v',e=.returned v'/\Row w' v' (digs (valL A+1))/\Below w.heap.size w w':=by
 obtain⟨i0,hi,ho,hp,hr⟩:=info_parts infoInt;have HE:=zh (fun acc u h=> @ninv_end A acc u h);obtain⟨T,hT⟩:=lt_ (digs (valL A+1));rw[hT] at HE ⊢;clear hT;obtain⟨PA,ca,rfl,hl,-⟩:=id h1;have H1:=zh h1;have HA:=zh hlA;obtain⟨n,hn⟩:=lt_ A.length;rw[hn] at hal hl HE;rw[hn];have HN:=zh hn;have hs:=zh (ninv_start A);clear h1 hlA hn hl;go_enter func164,ntmps164;go_wp2
 go_loopw [3,4,5] (fun v u t wr=>∃ (i o:Nat) (acc:List Nat),i<=n/\u=.int .i64 (o:Int)/\t=.int .i64 (i:Int)/\RowKit.Hid (NInv A i o acc)/\wr.ownsRow w.heap.size 3 1 v acc.length (Ints acc)/\Below w.heap.size w wr) (fun _ _ t _=>n-(intOf t).toNat)
 case atStart=>exact⟨0,1,[],Q7 _,rfl,rfl,hs,Qd _ _ _ _,bel⟩
 case round =>
  obtain⟨i,o,acc,hin,rfl,rfl,hP,hc,hB⟩:=hrel;have hml:maxLen=9223372036854775807:=by decide
  have hj:=hP.out.1;by_cases hi0:i=n
  ·subst hi0;have he:=HE.out acc o hP.out;have HC:=zh (fun v w h=>r1_cut (acc++[o]) v (by simp;omega) w h);rw[he] at HC;have HI:=zh (show acc.length<=1000 by omega);clear he hj;go_wp2_with(first|(go_at_call 256;refine(HC.out _ _ (zBL (by simpa [Ints] using hb))).mono ?_;rintro e w2 ⟨v2,rfl,hv,rfl⟩)|(at_builtin;refine wpList_append_own _ rfl _ _ 94 rfl w.heap.size 3 i0 (.int .i64 0) 1 8 underlying94 hi ho hp hr rfl (by decide) _ _ _ rfl (hc.alloc _) ⟨wr.heap.size,0,none⟩ 1 1 [.int .i64 ((o:Nat):Int)] rfl rfl (fun j u hu=>zBp (by simp) j u hu) (fun u hu=>by simp at hu;subst hu;rfl) (by have:=HI.out;omega) (by have:=HI.out;omega) (by have:=hB.size;simp;omega) ?_;intro v' w1 hb ha _;have hh:=(hB.alloc hB.size (.cells #[.int .i64 (o:Int)] 3)).grown ha (by have:=hB.size;simp;omega) (fun k hk=>(hc.lt k hk).1)))
   go_returns;exact⟨_,rfl,hv,hh⟩
  ·have hw:i<n:=by omega
   obtain⟨g,rfl,hg,ca⟩:=H1.out.get (j:=i) (by rw[HN.out];exact hw);have hm:=low_get HA.out i;have hd:=ninv_step hP.out HA.out;obtain⟨x,hx⟩:=lt_ (A.getD i 0);rw[hx] at ca hm hd;have c1:=(hB.cell (p:=⟨g,i,none⟩) hg).trans ca;have hy:o<=1:=hP.out.2.2.1;have HI:=zh (show acc.length<=1000 by omega);have li:i+1<1000000000:=by omega
   obtain⟨t,ht⟩:=lt_ (x+o);have lt:t<1000000000:=by omega
   rw[ht] at hd;obtain⟨f,hf⟩:=lt_ (t % 10000);obtain⟨q,hq⟩:=lt_ (t / 10000);rw[hf,hq] at hd;have lf:f<1000000000:=by omega
   have lq:q<1000000000:=by omega
   have HS:=zh hd;have wt:=wi_add ht lt;have m1:(t:Int).tmod 10000=(f:Int):=tmod_nat hf;have m2:(t:Int).tdiv 10000=(q:Int):=zAt hq;have m3:=w64_small lf;have m4:=w64_small lq;have m5:=zBU lf;have m6:=zBU lq;have wi:Q3.wrap ((i:Int)+1)=((i+1:Nat):Int):=zBU li;clear hd li hy hm hx ca hi0 hj ht lt hf hq lf lq;go_wp2_with(at_builtin;refine wpList_append_own _ rfl _ _ 94 rfl w.heap.size 3 i0 (.int .i64 0) 1 8 underlying94 hi ho hp hr rfl (by decide) _ _ _ rfl (hc.alloc _) ⟨wr.heap.size,0,none⟩ 1 1 [.int .i64 ((f:Nat):Int)] rfl rfl (fun j u hu=>zBp (by simp) j u hu) (fun u hu=>by simp at hu;subst hu;rfl) (by have:=HI.out;omega) (by have:=HI.out;omega) (by have:=hB.size;simp;omega) ?_;intro v' w1 hb ha _;have hh:=(hB.alloc hB.size (.cells #[.int .i64 (f:Int)] 3)).grown ha (by have:=hB.size;simp;omega) (fun k hk=>(hc.lt k hk).1))
   refine⟨⟨i+1,q,acc++[f],by omega,rfl,rfl,HS,by simpa [Ints] using hb,hh⟩,by simp[intOf];omega⟩
theorem digs_small {x:Nat} (h:0<x) (h2:x<10000):digs x=[x]:=by
 rw[digs_pos (by omega),show x / 10000=0 by omega,digs_zero,show x % 10000=x by omega]
theorem row_new (w:World) (x:Nat) (t:TypeId):Row (w.alloc (.cells #[.int .i64 ((x:Nat):Int)] t)) (.slice (some ⟨w.heap.size,0,none⟩) 1 1) [x]:=by
 refine row_of_at (l:=[x]) (n:=1) (c:=1) ?_ rfl (Q8 _) (by simp);exact AtB.new (w:=w) (cs:=#[.int .i64 ((x:Nat):Int)]) (t:=t) rfl
theorem pow_len {a:Nat} (ha:a<18446744073709551616) (i:Nat):(digs (a ^ i)).length<=5*i+1:=by
 refine zB6 _ _ ?_;have h1:a ^ i<=(10000 ^ 5) ^ i:=Nat.pow_le_pow_left (by omega) i;rw[<- Nat.pow_mul] at h1;rw[Q9];have h2:0<10000 ^ (5*i):=QU (by decide);omega
theorem r1_raised (a n:Nat) (ha:a<18446744073709551616) (hn:n<=64) (va:Value) (w:World) (h1:Row w va (digs a)):Calls prog 162 #[va,.int .i64 ((n:Nat):Int)] w fun e w'=>∃ v',e=.returned v'/\Row w' v' (digs (a ^ n))/\Below w.heap.size w w':=by
 have HP:=zh (fun i (hi:i<=n)=>(show (digs (a ^ i)).length<=1000 by have:=pow_len ha i;omega));have HA:=zh (show (digs a).length<=1000 by have:=zB6 5 a (by omega);omega);have HR:=zh h1;have H0:=zh (fun w t=>row_new w 1 t);clear h1 ha;go_enter func162,ntmps162;go_wp2
 go_loopw [5,6] (fun v t wr=>∃ i:Nat,i<=n/\t=.int .i64 (i:Int)/\RowKit.Hid (Row wr v (digs (a ^ i)))/\Below w.heap.size w wr) (fun _ t _=>n-(intOf t).toNat)
 case atStart=>exact⟨0,Q7 _,rfl,zh (by rw[Nat.pow_zero,digs_small (by decide) (by decide)];exact H0.out _ _),bel⟩
 case round =>
  obtain⟨i,hd,rfl,hv,hB⟩:=hrel;by_cases hi0:i=n
  ·subst hi0;go_wp2;go_returns;exact⟨_,rfl,hv.out,hB⟩
  ·have hlt:i<n:=by omega
   have HC:=zh (fun v w2 h hb=>r1_product (a ^ i) a v va (HP.out i hd) HA.out w2 h (HR.out.below (w':=w2) hb));have wi:Q3.wrap ((i:Int)+1)=((i+1:Nat):Int):=by rw[Q5];omega
   rw[<- Q9] at HC;go_wp2_with(go_at_call 156;refine(HC.out _ _ hv.out hB).mono ?_;rintro e w1 ⟨v',rfl,he,hc⟩)
   refine⟨⟨i+1,by omega,rfl,zh he,hB.trans (hc.mono hB.size)⟩,by simp[intOf];omega⟩
theorem wi_sub {hi lo d:Nat} (hd:hi-lo=d) (h:lo<hi) (h2:hi<=10000):Q3.wrap ((hi:Int)-(lo:Int))=(d:Int):=by rw[Q5];omega
theorem word_div {R B lo:Nat} (h1:B*lo<=R) (h2:R<B*(lo+1)):R / B=lo:=by
 refine Qs ?_ ?_
 ·rw[QD];exact h1
 ·rw[QD];exact h2
theorem r1_word (R B:Nat) (va vb:Value) (hRB:R<B*10000) (hRl:(digs R).length<=1000) (hBl:(digs B).length<=900) (w:World) (h1:Row w va (digs R)) (h2:Row w vb (digs B)):Rt 257 #[va,vb] w (.int .i64 ((R / B:Nat):Int)):=by
 have HR:=zh h1;have HB:=zh h2;have H0:=zh hRB;obtain⟨q,hq⟩:=lt_ (R / B);rw[hq];have HQ:=zh hq;clear h1 h2 hRB hq;go_enter func257,ntmps257;go_wp2
 go_loopw [5,6] (fun t u wr=>∃ lo hi:Nat,lo<hi/\hi<=10000/\t=.int .i64 (lo:Int)/\u=.int .i64 (hi:Int)/\RowKit.Hid (B*lo<=R/\R<B*hi)/\Below w.heap.size w wr) (fun t u _=>(intOf u-intOf t).toNat)
 case atStart=>exact⟨0,10000,by decide,by decide,rfl,rfl,zh ⟨by omega,H0.out⟩,bel⟩
 case round =>
  obtain⟨lo,hi,ht,hh,rfl,rfl,hI,hf⟩:=hrel;obtain⟨d,hd⟩:=lt_ (hi-lo);have wd:Q3.wrap ((hi:Int)-(lo:Int))=(d:Int):=by rw[Q5];omega
  by_cases h1:d<=1
  ·have hr: ¬ (1:Int)<(d:Int):=by omega
   have e:lo=q:=by
    have:=hI.out;rw[<- HQ.out,word_div this.1 (by rw[show lo+1=hi by omega];exact this.2)]
   subst e;clear hd;go_wp2;go_returns;exact⟨rfl,hf⟩
  ·have hr:(1:Int)<(d:Int):=by omega
   obtain⟨s,hs⟩:=lt_ (lo+hi);obtain⟨m,hm⟩:=lt_ (s / 2);have lm1:lo<m:=by omega
   have lm2:m<hi:=by omega
   have ls:s<1000000000:=by omega
   have lm:m<1000000000:=by omega
   have lmu:m<18446744073709551616:=by omega
   clear wd;have HG:=zh (fun w=>r1_great m lmu w);have hu:(digs m).length<=2:=zB6 2 m (by omega);have hp:=zh (fun v w2 h hb=>r1_product B m vb v (by omega) (by omega) w2 (HB.out.below (w':=w2) hb) h);have hv:(digs (B*m)).length<=1000:=by
    have h1:=val_lt (digs B) (zAs B);have h2:=val_lt (digs m) (zAs m);rw[zAl] at h1 h2;have h3:B*m<10000 ^ ((digs B).length+(digs m).length):=by
     rw[Nat.pow_add];exact Nat.mul_lt_mul'' h1 h2
    have:=zB6 _ _ h3;omega
   have HL:=zh (fun v w2 h hb=>r1_below R (B*m) va v (by omega) (by omega) w2 (HR.out.below (w':=w2) hb) h);have wd:Q3.wrap ((hi:Int)-(lo:Int))=(d:Int):=wi_sub hd ht hh;have ws:=wi_add hs ls;have m2:(s:Int).tdiv 2=(m:Int):=zAt hm;have m4:=w64_small lm;have m6:=zBU lm;have m7:=zAH lmu;clear hu hv hs hm ls lm lmu hd;by_cases hc:R<B*m
   ·rw[decide_eq_true hc] at HL;go_wp2_with(first|(go_at_call 157;refine(HG.out _).mono ?_;rintro e w1 ⟨v1,rfl,hn,hj⟩;have ha:=hf.trans (hj.mono hf.size))|(go_at_call 156;refine(hp.out _ _ hn ha).mono ?_;rintro e w2 ⟨v2,rfl,ho,hk⟩;have he:=ha.trans (hk.mono ha.size))|(go_at_call 158;refine(HL.out _ _ ho he).mono ?_;rintro e w3 ⟨rfl,hl⟩;have hg:=he.trans (hl.mono he.size)))
    clear ws m4 m6 m7;exact⟨⟨lo,m,lm1,by omega,rfl,rfl,zh ⟨hI.out.1,hc⟩,hg⟩,by simp[intOf];omega⟩
   ·rw[decide_eq_false hc] at HL;go_wp2_with(first|(go_at_call 157;refine(HG.out _).mono ?_;rintro e w1 ⟨v1,rfl,hn,hj⟩;have ha:=hf.trans (hj.mono hf.size))|(go_at_call 156;refine(hp.out _ _ hn ha).mono ?_;rintro e w2 ⟨v2,rfl,ho,hk⟩;have he:=ha.trans (hk.mono ha.size))|(go_at_call 158;refine(HL.out _ _ ho he).mono ?_;rintro e w3 ⟨rfl,hl⟩;have hg:=he.trans (hl.mono he.size)))
    clear ws m4 m6 m7;exact⟨⟨m,hi,lm2,hh,rfl,rfl,zh ⟨Nat.le_of_not_lt hc,hI.out.2⟩,hg⟩,by simp[intOf];omega⟩
theorem row_append_none (w:World) (base:Nat) (v:Value) (n c:Nat) (xs:List Value) (hown:w.ownsRow base 3 1 v n xs) (ty:TypeId) :
  (Builtin.append_ #[94,94] ty #[v,.slice none 0 c]).run prog w=.ok v w:=by
 obtain⟨i0,hi,hz0,hz1,hz2⟩:=info_parts infoInt;rcases hown.2 with ⟨rfl,rfl⟩|⟨g,cap,cur,rfl,_,_,ha,_⟩
 ·simp[Builtin.append_,run_underlying underlying94,sizeOf,typeInfo,hi,Builtin.lenOf,Builtin.firstCells]
 ·simp[Builtin.append_,run_underlying underlying94,sizeOf,typeInfo,hi,Builtin.lenOf,Builtin.firstCells,ha,storeCells]
theorem ints_append (a b:List Nat):Ints (a++b)=Ints a++Ints b:=by unfold Ints;rw[List.map_append]
theorem grown_refl (w:World) (row:Option Nat):w.grownBy w row:=⟨rfl,rfl,rfl,Q8 _,fun k _ _=>rfl⟩
theorem zBt {ops:Array Oper} {rest:List Oper} {o:Oper} {a:Act} {w:World} {Q:Exit->Act->World->Prop} (hgd:o.guard=none) (s x:Operand)
  (ho:o.op=.call { callee:=.builtin .append,args:=#[s,x],argTypes:=#[94,94] })
  (base:Nat) (v:Value) (xs:List Nat) (hs:a.eval s=v) (hown:w.ownsRow base 3 1 v xs.length (Ints xs)) (vx:Value) (l:List Nat) (hx:a.eval x=vx) (hr:Row w vx l) (hlen:xs.length+l.length<=1000000) (hbase:base<=w.heap.size)
  (h:∀ v' w',w'.ownsRow base 3 1 v' (xs++l).length (Ints (xs++l))->w.grownBy w' v.ownBlock->wpList prog ops Q rest (a.put o.dst v') w'):wpList prog ops Q (o::rest) a w:=by
 obtain⟨i0,hi,hd,he,hf⟩:=info_parts infoInt;obtain⟨A,c,rfl,hc,hl⟩:=hr;have hml:maxLen=9223372036854775807:=by decide
 cases A with
 | none =>
   have h0:l=[]:=by
    cases l with
    | nil=>rfl
    | cons y l =>
      obtain⟨g,e,_⟩:=hl (by simp);cases e
   subst h0;refine wpList_plain hgd fun K hK=> ?_;have hb:=row_append_none w base v xs.length c (Ints xs) hown o.type;unfold Oper.wp;simp[execOp,ho,resolve,invoke,builtin,hs,hx,hb,Result.andThen];exact hK _ _ (h v w (by simpa using hown) (grown_refl w _))
 | some ad =>
   refine wpList_append_own _ hgd s x 94 ho base 3 i0 (.int .i64 0) 1 8 underlying94 hi hd he hf rfl (by decide) v xs.length (Ints xs) hs hown ad l.length c (Ints l) hx (by simp[Ints]) (fun j u hu=> ?_) (fun u hu=> ?_) (by omega) (by omega) hbase (fun v' w' h1 h2 _=>h v' w' (by rw[ints_append,Qa];exact h1) h2)
   ·have hj:j<l.length:=by have:=(QL.1 hu).1;simpa [Ints] using this
    obtain⟨g,e,hg,ha⟩:=hl (by omega);cases e;have e2:(⟨g,0,none⟩:Addr).add j=⟨g,j,none⟩:=by unfold Addr.add;split<;>simp_all
    rw[e2];have h3:=ha j (Q4 hj);rw[ints_get hj,QM,Q4 hj] at hu;rw[h3];exact hu
   ·unfold Ints at hu;obtain⟨y,_,rfl⟩:=List.mem_map.1 hu
    rfl
def xN (B i r:Nat):Nat:=(if i=0 then 1 else 0)+10000*r
def rN (B:Nat):Nat->Nat
 | 0=>0
 | i+1=>xN B i (rN B i) % B
def qN (B:Nat):Nat->Nat
 | 0=>0
 | i+1=>xN B i (rN B i) / B+10000*qN B i
theorem rN_lt {B:Nat} (hB:0<B) (i:Nat):rN B i<B:=by
 cases i with
 | zero=>exact hB
 | succ i=>exact QR _ hB
theorem xN_lt {B:Nat} (hB:0<B) (i:Nat):xN B i (rN B i)<B*10000:=by
 have:=rN_lt hB i;unfold xN;split
 ·rename_i h;subst h;show 1+10000*0<_;omega
 ·omega
theorem qN_of {B:Nat} (hB:0<B) (i:Nat):B*qN B (i+1)+rN B (i+1)=10000 ^ i:=by
 induction i with
 | zero =>
   simp only[qN,rN,xN];have:=QB 1 B
   simpa using this
 | succ i ih =>
   have e:qN B (i+1+1)=(10000*rN B (i+1)) / B+10000*qN B (i+1):=by
    show xN B (i+1) (rN B (i+1)) / B+_=_;unfold xN;rw[if_neg (by omega),QX]
   have e2:rN B (i+1+1)=(10000*rN B (i+1)) % B:=by
    show xN B (i+1) (rN B (i+1)) % B=_;unfold xN;rw[if_neg (by omega),QX]
   rw[e,e2,Q9,<-ih,QF];have d:=QB (10000*rN B (i+1)) B;have f:B*(10000*qN B (i+1))=10000*(B*qN B (i+1)):=Z4 _ _ _;generalize B*qN B (i+1)=p at *;generalize rN B (i+1)=r at *;generalize B*(10000*r / B)=s at *;omega
def quoX (words B:Nat):Nat:=if rN B (words+1)*2<B then qN B (words+1) else qN B (words+1)+1
theorem quot_half {words B:Nat} (hB:0<B):quoX words B=10000 ^ words / B+(if 10000 ^ words % B*2<B then 0 else 1):=by
 have h1:=qN_of hB words;have h2:=rN_lt hB (words+1);have e1:10000 ^ words / B=qN B (words+1):=by
  rw[<- h1,QW hB,QJ h2,QY]
 have e2:10000 ^ words % B=rN B (words+1):=by
  rw[<- h1,Nat.mul_add_mod,Nat.mod_eq_of_lt h2]
 unfold quoX;rw[e1,e2];split<;>rfl
theorem xN_cut (B i r:Nat):cutL ((if i=0 then 1 else 0)::digs r)=digs (xN B i r):=by
 rw[cut_digs _ (fun a ha=>by
  rcases QK.1 ha with rfl|h
  ·split<;>decide
  ·exact zAs r a h)]
 unfold valL xN;rw[zAl]
theorem r1_quotient (words B:Nat) (hB:0<B) (hw:words<=100) (hBl0:(digs B).length<=800) (vb:Value) (w:World) (h2:Row w vb (digs B)):Calls prog 161 #[.int .i64 ((words:Nat):Int),vb] w fun e w'=>∃ v',e=.returned v'/\Row w' v' (digs (quoX words B))/\Below w.heap.size w w':=by
 have HB:=zh h2;have hK:=zh hB;obtain⟨R,hR⟩:=lt_ (quoX words B);rw[hR];have HQ:=zh hR;clear h2 hR hB;go_enter func161,ntmps161;go_wp2
 go_loopw [5,6,7] (fun q r t wr=>∃ (i:Nat) (L:List Nat),i<=words+1/\t=.int .i64 (i:Int)/\RowKit.Hid (Low L/\L.length=i/\valL L=qN B i)/\RowKit.Hid (Row wr q L)/\RowKit.Hid (Row wr r (digs (rN B i)))/\Below w.heap.size w wr) (fun _ _ t _=>words+1-(intOf t).toNat)
 case atStart=>exact⟨0,[],Q7 _,rfl,zh ⟨low_nil,rfl,rfl⟩,zh ⟨none,0,rfl,Q8 _,fun h=>absurd h (Qr 0)⟩,zh ⟨none,0,rfl,Q8 _,fun h=>absurd h (Qr 0)⟩,bel⟩
 case round =>
  obtain⟨i,L,hin,rfl,hP,hq,hr,he⟩:=hrel;by_cases hi9:i=words+1
  ·subst hi9;have hF:=hP.out;have hD:=digs_le_len (Qy (rN_lt hK.out (words+1)));have hz:=cut_digs L hF.1;have hC:valL L=qN B (words+1):=hF.2.2;have hQ:=HQ.out;unfold quoX at hQ;rw[hC] at hz;have hlI: ¬ ((words+1:Nat):Int)<=(words:Int):=by omega
   have hj:=fun v w2 h=>r1_next L hF.1 v (by have:=hF.2.1;omega) w2 h;rw[hC] at hj;have hg:=zh (fun v w2 h=>r1_cut L v (by have:=hF.2.1;omega) w2 h);rw[hz] at hg;obtain⟨r,hV⟩:=lt_ (rN B (words+1));rw[hV] at hr hD hQ;have Hb:digs 2=[2]:=digs_small (by decide) (by decide);have hf:=zh (fun v v2 w2 h (h2:Row w2 v2 [2])=>r1_product r 2 v v2 (by omega) (by rw[Hb];decide) w2 h (by rw[Hb];exact h2));have hH:(digs (r*2)).length<=1000:=by
    have h3:=val_lt (digs B) (zAs B);rw[zAl] at h3;have h4:r*2<10000 ^ ((digs B).length+1):=by
     have h5:=val_lt (digs r) (zAs r);rw[zAl] at h5;have h6:10000 ^ (digs r).length<=10000 ^ (digs B).length:=QH (by decide) hD;rw[Q9];omega
    have:=zB6 _ _ h4;omega
   have hv:=zh (fun v w2 h hb=>r1_below (r*2) B v vb (Qj hH (by decide)) (Qj hBl0 (by decide)) w2 h (HB.out.below (w':=w2) hb));have hm:=zh (fun (b:World) o=>(show Below b.heap.size b (b.alloc o) from bel));have H2:=zh (fun (b:World) t=>row_new b 2 t);by_cases hc:r*2<B
   ·rw[if_pos hc] at hQ;rw[hQ] at hg;rw[decide_eq_true hc] at hv;clear hz hC hj hV hD hH hQ hF;go_wp2_with(first
     | (go_at_call 156;refine(hf.out _ _ _ (hr.out.below (hm.out wr _)) (H2.out wr _)).mono ?_;rintro e w1 ⟨v1,rfl,hY,b1⟩;have c1:=(hm.out wr (.cells #[.int .i64 2] 3)).trans (b1.mono (by simp)))
     | (go_at_call 158;refine(hv.out _ _ hY (he.trans (c1.mono he.size))).mono ?_;rintro e w2 ⟨rfl,b2⟩;have c2:=c1.trans (b2.mono c1.size))
     | (go_at_call 256;refine(hg.out _ _ (hq.out.below c2)).mono ?_;rintro e w3 ⟨v3,rfl,hI,rfl⟩))
    all_goals(go_returns;exact⟨_,rfl,hI,he.trans (c2.mono he.size)⟩)
   ·rw[if_neg hc] at hQ;rw[hQ] at hj;rw[decide_eq_false hc] at hv;have hJ:=zh hj;clear hz hC hj hV hD hH hQ hF;go_wp2_with(first
     | (go_at_call 156;refine(hf.out _ _ _ (hr.out.below (hm.out wr _)) (H2.out wr _)).mono ?_;rintro e w1 ⟨v1,rfl,hY,b1⟩;have c1:=(hm.out wr (.cells #[.int .i64 2] 3)).trans (b1.mono (by simp)))
     | (go_at_call 158;refine(hv.out _ _ hY (he.trans (c1.mono he.size))).mono ?_;rintro e w2 ⟨rfl,b2⟩;have c2:=c1.trans (b2.mono c1.size))
     | (go_at_call 164;refine(hJ.out _ _ (hq.out.below c2)).mono ?_;rintro e w3 ⟨v3,rfl,hI,b3⟩;have c3:=c2.trans (b3.mono c2.size)))
    all_goals(go_returns;exact⟨_,rfl,hI,he.trans (c3.mono he.size)⟩)
  ·by_cases hi0:i=0
   ·subst hi0;have hx:=xN_cut B 0 (rN B 0);have hy:=xN_lt hK.out 0;have hA:qN B (0+1)=xN B 0 (rN B 0) / B+10000*qN B 0:=rfl;have hG:rN B (0+1)=xN B 0 (rN B 0) % B:=rfl;have hD:=digs_le_len (Qy (rN_lt hK.out 0));rw[if_pos rfl] at hx;obtain⟨X,hX⟩:=lt_ (xN B 0 (rN B 0));rw[hX] at hx hy hA hG;obtain⟨d,hd⟩:=lt_ (X / B);have hL:X<10000 ^ ((digs B).length+1):=by
     have h3:=val_lt (digs B) (zAs B);rw[zAl] at h3;rw[Q9];omega
    have hp:=zB6 _ _ hL;have ld:d<10000:=by rw[<- hd];exact QG hy
    have hM:B*d<=X:=by rw[<- hd];exact Nat.mul_div_le X B
    have hs:X-B*d=X % B:=by have:=QB X B;rw[hd] at this;omega
    have hS:(digs d).length<=1:=zB6 1 d (by omega);have lu:d<18446744073709551616:=by omega
    have hg:=zh (fun v w2 h=>r1_cut (1::digs (rN B 0)) v (by simp;omega) w2 h);rw[hx] at hg;have hi:=zh (fun v w2 h hb=>r1_word X B v vb hy (by omega) (by omega) w2 h (HB.out.below (w':=w2) hb));rw[hd] at hi;have hl:=zh (fun w2=>r1_great d lu w2);have hf:=zh (fun v w2 h hb=>r1_product B d vb v (by omega) (by omega) w2 (HB.out.below (w':=w2) hb) h);have hh:=zh (fun v v2 w2 h h2=>r1_less X (B*d) hM v v2 (by omega) w2 h h2);rw[hs,<-hG] at hh;rw[hd] at hA;have hE:=zh (show Low (d::L)/\(d::L).length=0+1/\valL (d::L)=qN B (0+1) from ⟨fun a ha=>by
     rcases QK.1 ha with rfl|h
     ·exact ld
     ·exact hP.out.1 a h,by rw[Qh,hP.out.2.1],by rw[hA,<-hP.out.2.2];rfl⟩)
    have hO:L.length=0:=hP.out.2.1;have hn:=zh (show [1].length+(digs (rN B 0)).length<=1000000 by simp;omega);have ho:=zh (show [d].length+L.length<=1000000 by simp;omega);have Hd:(0:Int)<=(words:Int):=by omega
    have li:0+1<1000000000:=by omega
    have hW:=he.size;have H0:=zh (fun (b:World)=>QQ (e:=3) (size:=1) (base:=b.heap.size) b #[.int .i64 1] 1 (Q8 _) (by decide) rfl);have H9:=zh (fun (b:World)=>QQ (e:=3) (size:=1) (base:=b.heap.size) b #[.int .i64 (d:Int)] 1 (Q8 _) (by decide) rfl);have hm:=zh (fun (b:World) o=>(show Below b.heap.size b (b.alloc o) from bel));have wu:=zAH lu;have wi:Q3.wrap ((0:Int)+1)=((0+1:Nat):Int):=zBU li;clear hx hy hA hG hX hd hL hp ld hM hs hS lu hO li hW hD;go_wp2_with(first
     | (at_builtin;refine zBt rfl _ _ rfl wr.heap.size _ [1] rfl (H0.out wr) _ (digs (rN B 0)) rfl (hr.out.below (hm.out wr _)) hn.out (by simp) ?_;intro v1 w1 ht hT;have c1:=(hm.out wr (.cells #[.int .i64 1] 3)).grown hT (by simp) (fun k hk=>((H0.out wr).lt k hk).1))
     | (go_at_call 256;refine(hg.out _ _ (zBL ht)).mono ?_;rintro e w1' ⟨v2,rfl,hN,rfl⟩)
     | (go_at_call 257;refine(hi.out _ _ hN (he.trans (c1.mono he.size))).mono ?_;rintro e w2 ⟨rfl,b2⟩;have c2:=c1.trans (b2.mono c1.size))
     | (go_at_call 157;refine(hl.out _).mono ?_;rintro e w3 ⟨v3,rfl,hI,b3⟩;have c3:=c2.trans (b3.mono c2.size);have d3:=b2.trans (b3.mono b2.size))
     | (go_at_call 156;refine(hf.out _ _ hI (he.trans (c3.mono he.size))).mono ?_;rintro e w4 ⟨v4,rfl,hZ,b4⟩;have c4:=c3.trans (b4.mono c3.size);have d4:=d3.trans (b4.mono d3.size))
     | (go_at_call 258;refine(hh.out _ _ _ (hN.below d4) hZ).mono ?_;rintro e w5 ⟨v5,rfl,Ha,b5⟩;have c5:=c4.trans (b5.mono c4.size))
     | (at_builtin;refine zBt rfl _ _ rfl w5.heap.size _ [d] rfl (H9.out w5) _ L rfl ((hq.out.below c5).below (hm.out w5 _)) ho.out (by simp) ?_;intro v6 w6 hu hU;have c6:=(hm.out w5 (.cells #[.int .i64 (d:Int)] 3)).grown hU (by simp) (fun k hk=>((H9.out w5).lt k hk).1)))
    exact⟨⟨0+1,d::L,by omega,rfl,hE,zh (zBL hu),zh (Ha.below c6),(he.trans (c5.mono he.size)).trans (c6.mono (Qj he.size c5.size))⟩,by simp[intOf]<;>omega⟩
   ·have Hc: ¬ (i:Int)=0:=by omega
    have hx:=xN_cut B i (rN B i);have hy:=xN_lt hK.out i;have hA:qN B (i+1)=xN B i (rN B i) / B+10000*qN B i:=rfl;have hG:rN B (i+1)=xN B i (rN B i) % B:=rfl;have hD:=digs_le_len (Qy (rN_lt hK.out i));rw[if_neg hi0] at hx;obtain⟨X,hX⟩:=lt_ (xN B i (rN B i));rw[hX] at hx hy hA hG;obtain⟨d,hd⟩:=lt_ (X / B);have hL:X<10000 ^ ((digs B).length+1):=by
     have h3:=val_lt (digs B) (zAs B);rw[zAl] at h3;rw[Q9];omega
    have hp:=zB6 _ _ hL;have ld:d<10000:=by rw[<- hd];exact QG hy
    have hM:B*d<=X:=by rw[<- hd];exact Nat.mul_div_le X B
    have hs:X-B*d=X % B:=by have:=QB X B;rw[hd] at this;omega
    have hS:(digs d).length<=1:=zB6 1 d (by omega);have lu:d<18446744073709551616:=by omega
    have hg:=zh (fun v w2 h=>r1_cut (0::digs (rN B i)) v (by simp;omega) w2 h);rw[hx] at hg;have hi:=zh (fun v w2 h hb=>r1_word X B v vb hy (by omega) (by omega) w2 h (HB.out.below (w':=w2) hb));rw[hd] at hi;have hl:=zh (fun w2=>r1_great d lu w2);have hf:=zh (fun v w2 h hb=>r1_product B d vb v (by omega) (by omega) w2 (HB.out.below (w':=w2) hb) h);have hh:=zh (fun v v2 w2 h h2=>r1_less X (B*d) hM v v2 (by omega) w2 h h2);rw[hs,<-hG] at hh;rw[hd] at hA;have hE:=zh (show Low (d::L)/\(d::L).length=i+1/\valL (d::L)=qN B (i+1) from ⟨fun a ha=>by
     rcases QK.1 ha with rfl|h
     ·exact ld
     ·exact hP.out.1 a h,by rw[Qh,hP.out.2.1],by rw[hA,<-hP.out.2.2];rfl⟩)
    have hO:L.length=i:=hP.out.2.1;have hn:=zh (show [0].length+(digs (rN B i)).length<=1000000 by simp;omega);have ho:=zh (show [d].length+L.length<=1000000 by simp;omega);have Hd:(i:Int)<=(words:Int):=by omega
    have li:i+1<1000000000:=by omega
    have hW:=he.size;have H0:=zh (fun (b:World)=>QQ (e:=3) (size:=1) (base:=b.heap.size) b #[.int .i64 0] 1 (Q8 _) (by decide) rfl);have H9:=zh (fun (b:World)=>QQ (e:=3) (size:=1) (base:=b.heap.size) b #[.int .i64 (d:Int)] 1 (Q8 _) (by decide) rfl);have hm:=zh (fun (b:World) o=>(show Below b.heap.size b (b.alloc o) from bel));have wu:=zAH lu;have wi:Q3.wrap ((i:Int)+1)=((i+1:Nat):Int):=zBU li;clear hx hy hA hG hX hd hL hp ld hM hs hS lu hO li hW hD;go_wp2_with(first
     | (at_builtin;refine zBt rfl _ _ rfl wr.heap.size _ [0] rfl (H0.out wr) _ (digs (rN B i)) rfl (hr.out.below (hm.out wr _)) hn.out (by simp) ?_;intro v1 w1 ht hT;have c1:=(hm.out wr (.cells #[.int .i64 0] 3)).grown hT (by simp) (fun k hk=>((H0.out wr).lt k hk).1))
     | (go_at_call 256;refine(hg.out _ _ (zBL ht)).mono ?_;rintro e w1' ⟨v2,rfl,hN,rfl⟩)
     | (go_at_call 257;refine(hi.out _ _ hN (he.trans (c1.mono he.size))).mono ?_;rintro e w2 ⟨rfl,b2⟩;have c2:=c1.trans (b2.mono c1.size))
     | (go_at_call 157;refine(hl.out _).mono ?_;rintro e w3 ⟨v3,rfl,hI,b3⟩;have c3:=c2.trans (b3.mono c2.size);have d3:=b2.trans (b3.mono b2.size))
     | (go_at_call 156;refine(hf.out _ _ hI (he.trans (c3.mono he.size))).mono ?_;rintro e w4 ⟨v4,rfl,hZ,b4⟩;have c4:=c3.trans (b4.mono c3.size);have d4:=d3.trans (b4.mono d3.size))
     | (go_at_call 258;refine(hh.out _ _ _ (hN.below d4) hZ).mono ?_;rintro e w5 ⟨v5,rfl,Ha,b5⟩;have c5:=c4.trans (b5.mono c4.size))
     | (at_builtin;refine zBt rfl _ _ rfl w5.heap.size _ [d] rfl (H9.out w5) _ L rfl ((hq.out.below c5).below (hm.out w5 _)) ho.out (by simp) ?_;intro v6 w6 hu hU;have c6:=(hm.out w5 (.cells #[.int .i64 (d:Int)] 3)).grown hU (by simp) (fun k hk=>((H9.out w5).lt k hk).1)))
    exact⟨⟨i+1,d::L,by omega,rfl,hE,zh (zBL hu),zh (Ha.below c6),(he.trans (c5.mono he.size)).trans (c6.mono (Qj he.size c5.size))⟩,by simp[intOf]<;>omega⟩
def valU:List Nat->Nat
 | []=>0
 | a::l=>a+18446744073709551616*valU l
theorem valU_append:∀ (a b:List Nat),valU (a++b)=valU a+18446744073709551616 ^ a.length*valU b
 | [],b=>by simp[valU]
 | x::a,b=>by
   rw[List.cons_append,valU,valU,valU_append a b,Qh,Q9,QF,Nat.add_assoc]
   congr 2
   rw[<- QC,QD 18446744073709551616]
theorem valU_snoc (a:List Nat) (x:Nat):valU (a++[x])=valU a+18446744073709551616 ^ a.length*x:=by
 rw[valU_append];simp[valU]
theorem tSt_val (x:Nat) (l:List Nat):(tSt x l).1.length=l.length/\valU (tSt x l).1+18446744073709551616 ^ l.length*(tSt x l).2=valU l*x:=by
 refine snoc_ind (P:=fun l=>(tSt x l).1.length=l.length/\valU (tSt x l).1+18446744073709551616 ^ l.length*(tSt x l).2=valU l*x) ?_ ?_ l
 ·exact⟨rfl,by simp[tSt,valU]⟩
 ·intro l w ih;obtain⟨h1,h2⟩:=ih;rw[tSt_snoc];unfold tStep;refine⟨by simp[h1],?_⟩;dsimp only;rw[valU_snoc,valU_snoc,h1,Qa,Qn,Q9,Nat.add_mul,<-h2];have d:=QB (w*x+(tSt x l).2) 18446744073709551616;generalize (w*x+(tSt x l).2) / 18446744073709551616=q at *;generalize (w*x+(tSt x l).2) % 18446744073709551616=r at *;generalize 18446744073709551616 ^ l.length=P at *;have f:=congrArg (fun z=>P*z) d;simp only[QF] at f;have f2:P*(18446744073709551616*q)=P*18446744073709551616*q:=(QC _ _ _).symm;have f3:P*(w*x)=P*w*x:=(QC _ _ _).symm;omega
theorem times_val (x:Nat) (l:List Nat):valU (zAK x l)=valU l*x:=by
 obtain⟨h1,h2⟩:=tSt_val x l;unfold zAK;split
 ·rw[valU_snoc,h1,h2]
 ·rename_i h;rw[show (tSt x l).2=0 by omega,Nat.mul_zero] at h2;exact h2
def Big (l:List Nat):Prop:=1<l.length->18446744073709551616<=valU l
theorem big_top {P c V:Nat} (h:18446744073709551616<=P) (hc:0<c):18446744073709551616<=V+P*c:=by
 have:P*1<=P*c:=Qu _ hc;omega
theorem pow_big {j:Nat} (h:0<j):18446744073709551616<=18446744073709551616 ^ j:=by
 obtain⟨i,rfl⟩:∃ i,j=i+1:=⟨j-1,by omega⟩
 rw[Q9];have:=QU (n:=i) (show 0<18446744073709551616 by decide);omega
theorem times_big {x:Nat} (hx:0<x) {l:List Nat} (h:Big l):Big (zAK x l):=by
 intro hl;obtain⟨h1,h2⟩:=tSt_val x l;by_cases hc:0<(tSt x l).2
 ·rw[zAK,if_pos hc] at hl ⊢;rw[Qa,h1,Qn] at hl;rw[valU_snoc,h1];exact big_top (pow_big (by omega)) hc
 ·rw[times_val];rw[zAK,if_neg hc,h1] at hl;have h3:=h hl;have:valU l*1<=valU l*x:=Qu _ hx;omega
theorem bSt_val (x:Nat):∀ l,valU l=x*valU (bSt x l).1+(bSt x l).2
 | []=>by simp[bSt,valU]
 | w::ws=>by
   have ih:=bSt_val x ws;simp only[bSt,valU];rw[ih];have d:=QB ((bSt x ws).2*18446744073709551616+w) x;generalize ((bSt x ws).2*18446744073709551616+w) / x=q at *;generalize ((bSt x ws).2*18446744073709551616+w) % x=r at *;have f:x*(q+18446744073709551616*valU (bSt x ws).1)=x*q+18446744073709551616*(x*valU (bSt x ws).1):=by
    rw[QF,Z4]
   rw[f];generalize x*valU (bSt x ws).1=p at *;omega
theorem strip_val (zs:List Nat):∀ m,valU (strip zs m)=valU (zs.take m)/\Big (strip zs m)
 | 0=>⟨rfl,fun h=>by simp[strip] at h⟩
 | m+1=>by
   obtain⟨h1,h2⟩:=strip_val zs m;unfold strip;by_cases hc:zs.getD m 0=0
   ·rw[if_pos hc];refine⟨?_,h2⟩;rw[h1];by_cases hm:m<zs.length
    ·rw[QT hm,valU_snoc];rw[QM,Q4 hm] at hc;rw[show zs[m]=0 from hc];simp
    ·rw[QA (by omega),QA (by omega)]
   ·rw[if_neg hc];refine⟨rfl,fun hl=> ?_⟩;have hm:m<zs.length:=by
     by_cases h:m<zs.length
     ·exact h
     ·exact absurd (by rw[QM,Qm (by omega)];rfl) hc
    rw[QM,Q4 hm] at hc;rw[Z7] at hl;rw[QT hm,valU_snoc,Z7];exact big_top (pow_big (by omega)) (Qb hc)
theorem by_val {x:Nat} (hx:0<x) (l:List Nat):valU (byL x l)=valU l / x/\Big (byL x l):=by
 unfold byL;obtain⟨h1,h2⟩:=strip_val (bSt x l).1 l.length;refine⟨?_,h2⟩;rw[h1,QA (Qx (bSt_len x l))];have h3:=bSt_val x l;have h4:=bSt_rest x hx l;rw[h3,QW hx,QJ h4,QY]
theorem iter_times_val (x:Nat) (l:List Nat):∀ k,valU (iterN (zAK x) k l)=valU l*x ^ k
 | 0=>by simp[iterN]
 | k+1=>by rw[iterN,times_val,iter_times_val x l k,Q9,QC]
theorem iter_times_big {x:Nat} (hx:0<x) {l:List Nat} (h:Big l):∀ k,Big (iterN (zAK x) k l)
 | 0=>h
 | k+1=>times_big hx (iter_times_big hx h k)
theorem iter_by_val {x:Nat} (hx:0<x) (l:List Nat):∀ k,valU (iterN (byL x) k l)=valU l / x ^ k
 | 0=>by simp[iterN]
 | k+1=>by rw[iterN,(by_val hx _).1,iter_by_val hx l k,QS,Q9]
theorem iter_by_big {x:Nat} (hx:0<x) {l:List Nat} (h:Big l):∀ k,Big (iterN (byL x) k l)
 | 0=>h
 | k+1=>(by_val hx _).2
theorem iter_nought:∀ k,(iterN (zAK 0) k [2]).length<=1
 | 0=>Q8 _
 | k+1=>by
   have ih:=iter_nought k;rw[iterN];generalize iterN (zAK 0) k [2]=l at *;obtain⟨h1,h2⟩:=tSt_val 0 l;have h3:(tSt 0 l).2=0:=by
    have:=QU (n:=l.length) (show 0<18446744073709551616 by decide);by_cases h0:(tSt 0 l).2=0
    ·exact h0
    ·have:=Nat.mul_pos this (Qb h0);omega
   unfold zAK;rw[if_neg (by omega),h1];exact ih
theorem powE_val {l:List Nat} (h:Big l) (b:Bool):powE l b=signX ((valU l+1) / 2) b:=by
 unfold powE;by_cases hl:1<l.length
 ·rw[if_pos hl];have:=h hl;unfold signX;rw[if_pos (by omega)]
 ·rw[if_neg hl]
  congr 1
  match l,hl with
  | [],_=>rfl
  | [a],_ =>
    simp only[List.headD_cons,valU];omega
  | a::b::l,hl=>exact absurd (by simp) hl
theorem powX_pos {x n:Int} (hx: ¬ x=minI) (h1:0<n) (h2:n<=64):powX x n=signX ((2*x.natAbs ^ n.toNat / 10000 ^ (n.toNat-1)+1) / 2) (lowX x&&n % 2 != 0):=by
 unfold powX powL;rw[if_neg hx,if_neg (by omega),if_neg (by omega),if_neg (by omega),if_pos h1];have hb:Big (iterN (zAK x.natAbs) n.toNat [2]):=by
  by_cases h0:x.natAbs=0
  ·rw[h0];exact fun h=>absurd (iter_nought n.toNat) (by omega)
  ·exact iter_times_big (Qb h0) (fun h=>absurd h (by decide)) _
 rw[powE_val (iter_by_big (by decide) hb _),iter_by_val (by decide),iter_times_val,show (n-1).toNat=n.toNat-1 by omega]
 rfl
theorem powX_neg {x n:Int} (hx: ¬ x=minI) (h1:n<0) (h2: -64<=n) (h3: ¬ x=0):powX x n=signX ((2*10000 ^ (1-n).toNat / x.natAbs ^ (-n).toNat+1) / 2) (lowX x&&n % 2 != 0):=by
 unfold powX powL;rw[if_neg hx,if_neg (by omega),if_neg (by omega),if_neg (by omega),if_neg (by omega)];have hb:Big (iterN (zAK 10000) (1-n).toNat [2]):=iter_times_big (by decide) (fun h=>absurd h (by decide)) _;rw[powE_val (iter_by_big (by omega) hb _),iter_by_val (by omega),iter_times_val]
 rfl
theorem half_up {a b X B:Nat} (hB:0<B) (ha:X / B=a) (hb:X % B=b):(2*X / B+1) / 2=a+(if b*2<B then 0 else 1):=by
 have h1:=QB X B;rw[ha,hb] at h1;have hbl:b<B:=by rw[<- hb];exact QR _ hB
 have e:2*X / B=2*a+2*b / B:=by
  rw[<- h1,QF,<-QC,QD 2 B,QC,QW hB]
 rw[e];by_cases hc:b*2<B
 ·rw[if_pos hc,QJ (show 2*b<B by omega)];omega
 ·rw[if_neg hc,show 2*b / B=1 from Qs (by omega) (by omega)];omega
theorem powX_quo {x n:Int} (hx: ¬ x=minI) (h1:n<0) (h2: -64<=n) (h3: ¬ x=0):powX x n=signX (quoX (1-n).toNat (x.natAbs ^ (-n).toNat)) (lowX x&&n % 2 != 0):=by
 have hB:0<x.natAbs ^ (-n).toNat:=QU (by omega);rw[powX_neg hx h1 h2 h3,quot_half hB,half_up hB rfl rfl]
def cutX (p n:Nat):Nat:=p / 10000 ^ (n-1)+(if 1<n/\5000<=p / 10000 ^ (n-2) % 10000 then 1 else 0)
theorem cut_half (p n:Nat) (hn:0<n):(2*p / 10000 ^ (n-1)+1) / 2=cutX p n:=by
 unfold cutX;by_cases h1:n=1
 ·subst h1;simp;omega
 ·obtain⟨k,rfl⟩:∃ k,n=k+2:=⟨n-2,by omega⟩
  have hP:0<10000 ^ k:=QU (by decide);rw[show k+2-1=k+1 by omega,show k+2-2=k by omega,Q9,<-QS,<-QS];have e:2*p / 10000 ^ k=2*(p / 10000 ^ k)+2*(p % 10000 ^ k) / 10000 ^ k:=by
   have h1:=QB p (10000 ^ k);generalize p / 10000 ^ k=u at *;generalize p % 10000 ^ k=v at *;rw[<- h1,QF,<-QC,QD 2 (10000 ^ k),QC,QW hP]
  have hv:2*(p % 10000 ^ k) / 10000 ^ k<=1:=by
   have:=QR p hP;have h2:2*(p % 10000 ^ k) / 10000 ^ k<2:=QG (by omega);omega
  rw[e];generalize p / 10000 ^ k=u at *;generalize 2*(p % 10000 ^ k) / 10000 ^ k=v at *;by_cases hc:5000<=u % 10000
  ·rw[if_pos ⟨by omega,hc⟩];omega
  ·rw[if_neg (fun h=>hc h.2)];omega
theorem powX_cut {x n:Int} (hx: ¬ x=minI) (h1:0<n) (h2:n<=64):powX x n=signX (cutX (x.natAbs ^ n.toNat) n.toNat) (lowX x&&n % 2 != 0):=by
 rw[powX_pos hx h1 h2,cut_half _ _ (by omega)]
theorem sign_small (V:Nat) (b:Bool):signX V b=if (smallX V).2=false then (0,2) else signX (smallX V).1 b:=by
 unfold smallX;by_cases h:V<=9223372036854775807
 ·rw[if_pos h]
  rfl
 ·rw[if_neg h];unfold signX;rw[if_pos (by omega)]
  rfl
theorem cut_few {p n:Nat} (hn:0<n) (h:(digs p).length<n-1):cutX p n=0:=by
 have h1:=val_lt (digs p) (zAs p);rw[zAl] at h1;have h2:10000 ^ (digs p).length<=10000 ^ (n-2):=QH (by decide) (by omega);have h3:10000 ^ (n-2)<=10000 ^ (n-1):=QH (by decide) (by omega);unfold cutX;rw[QJ (show p<10000 ^ (n-1) by omega),QJ (show p<10000 ^ (n-2) by omega),if_neg (fun h=>absurd h.2 (by decide))]
end Go.Proofs.YtnccknhbplaieaaGreatDoor
