/- Parts. -/
import Derived.Test.YtnccknhbplaieaaGreatDoorC15
import Derived.Test.YtnccknhbplaieaaGreatDoorC14
set_option linter.all false
set_option maxRecDepth 100000
set_option maxHeartbeats 4000000
namespace Go.Proofs.YtnccknhbplaieaaGreatDoor
open Go Go.RowKit Go.Proofs.Tryz
open Go.Lib renaming hid->zh
open _root_.Int renaming tmod_eq_emod_of_nonneg->Q3
open Go.IntKind renaming wrap_i64->Q4,i64->Q7
open _root_.List renaming getElem?_eq_getElem->Q5,length_drop->QA
open _root_.Nat renaming le_refl->Q8
open Go.World renaming ownsRow_nil->Q9
theorem quo_len {k B:Nat} (hB:0<B) (hk:k<=64):(digs (quoX (k+1) B)).length<=1000:=by
 have h1:10000 ^ (k+1) / B<=10000 ^ (k+1):=Nat.div_le_self _ _;have h2:quoX (k+1) B<10000 ^ (k+2):=by
  rw[quot_half hB,Nat.pow_succ (m:=k+1)];have:0<10000 ^ (k+1):=Nat.pow_pos (by decide);split<;>omega
 have:=zB6 _ _ h2;omega
theorem small_le (V:Nat):(smallX V).1<18446744073709551616:=by
 unfold smallX;split<;>simp<;>omega
theorem power_neg (x:Int) (hx:In63 x) (n:Int) (k:Nat) (hnk:n= -(k:Int)) (hk1:1<=k) (hk:k<=64) (hx0: ¬ x=0) (w:World):Rt 102 #[.int .i64 x,.int .i64 n] w (.tuple #[.int .i64 (signX (quoX (k+1) (x.natAbs ^ k)) (lowX x&&k % 2 != 0)).1,.int .i64 (signX (quoX (k+1) (x.natAbs ^ k)) (lowX x&&k % 2 != 0)).2]):=by
 have ht:Is64 x:=by unfold In63 at hx;unfold Is64;omega
 have HZ:=zh (r1_size x ht);have k1:decide ((-9223372036854775807:Int)<=x)=true:=decide_eq_true hx.1;have lm:x.natAbs<18446744073709551616:=by unfold In63 at hx;omega
 have hf:0<x.natAbs:=by omega
 obtain⟨y,hy⟩:=lt_ (lowX x);obtain⟨m,hm⟩:=lt_ x.natAbs;rw[hm,hy] at HZ ⊢;rw[hm] at lm hf;have hB:0<m ^ k:=Nat.pow_pos hf;have hr:=pow_len lm k;have ha:=quo_len hB hk;obtain⟨wd,hs⟩:=lt_ (k+1);obtain⟨B,ho⟩:=lt_ (m ^ k);have HG:=zh (fun w=>r1_great m lm w);have hd:=zh (fun v w2 h=>r1_raised m k lm hk v w2 h);rw[ho] at hB hr ha hd ⊢;rw[hs] at ha ⊢;have hc:=zh (fun v w2 h=>r1_quotient wd B hB (by omega) (by omega) v w2 h);obtain⟨V,hV⟩:=lt_ (quoX wd B);rw[hV] at hc ha ⊢;have he:=zh (fun v w2 h=>r1_small V v ha w2 h);have hq:=small_le V;rw[sign_small];obtain⟨S,hS⟩:=lt_ (smallX V);rw[hS] at he hq ⊢;obtain⟨s,ok⟩:=S;have n1: ¬ n< -64:=by omega
 have n2: ¬ (64:Int)<n:=by omega
 have n3: ¬ n=0:=by omega
 have n4:n<0:=by omega
 have wa:Q7.wrap (1-n)=(wd:Int):=by rw[Q4];omega
 have wb:Q7.wrap (-n)=(k:Int):=by rw[Q4];omega
 have hl:=zh hnk;clear hnk hs ho hm hy lm hf hB hr ha hV hS hx ht;cases ok
 ·rw[if_pos rfl];go_enter func102,ntmps102;go_wp2_with(first
   | (go_at_call 95;refine(zAL _ _).mono ?_;rintro e w1 ⟨rfl,rfl⟩)
   | (go_at_call 159;refine(HZ.out _).mono ?_;rintro e w1 ⟨rfl,rfl⟩)
   | (go_at_call 157;refine(HG.out _).mono ?_;rintro e w1 ⟨v1,rfl,hh,b1⟩)
   | (go_at_call 162;refine(hd.out _ _ hh).mono ?_;rintro e w2 ⟨v2,rfl,hi,b2⟩;have c2:=b1.trans (b2.mono b1.size))
   | (go_at_call 161;refine(hc.out _ _ hi).mono ?_;rintro e w3 ⟨v3,rfl,hj,b3⟩;have hb:=c2.trans (b3.mono c2.size))
   | (go_at_call 163;refine(he.out _ _ hj).mono ?_;rintro e w4 ⟨rfl,rfl⟩)
   | (go_at_call 160;refine(hn.out _ _).mono ?_;rintro e w5 ⟨rfl,rfl⟩))
  all_goals(go_returns;exact⟨rfl,hb⟩)
 rw[if_neg (by simp)];have hn:=zh (fun b=>zBJ s hq b);by_cases hp:k % 2=0
 have hu:n.tmod 2=0:=by rw[hl.out,Int.neg_tmod,Q3 (by omega)];omega
 have hg:(k % 2 != 0)=false:=by simp[hp]
 rw[hg];have w0:wrap64 (0:Int)=0:=by unfold wrap64;rfl
 rotate_left
 have hu:n.tmod 2= -1:=by rw[hl.out,Int.neg_tmod,Q3 (by omega)];omega
 have hg:(k % 2 != 0)=true:=bne_iff_ne.2 hp;rw[hg];have w0:wrap64 (-1:Int)= -1:=by unfold wrap64;rfl
 all_goals
  clear hp;cases y;all_goals go_enter func102,ntmps102;all_goals go_wp2_with(first
   | (go_at_call 95;refine(zAL _ _).mono ?_;rintro e w1 ⟨rfl,rfl⟩)
   | (go_at_call 159;refine(HZ.out _).mono ?_;rintro e w1 ⟨rfl,rfl⟩)
   | (go_at_call 157;refine(HG.out _).mono ?_;rintro e w1 ⟨v1,rfl,hh,b1⟩)
   | (go_at_call 162;refine(hd.out _ _ hh).mono ?_;rintro e w2 ⟨v2,rfl,hi,b2⟩;have c2:=b1.trans (b2.mono b1.size))
   | (go_at_call 161;refine(hc.out _ _ hi).mono ?_;rintro e w3 ⟨v3,rfl,hj,b3⟩;have hb:=c2.trans (b3.mono c2.size))
   | (go_at_call 163;refine(he.out _ _ hj).mono ?_;rintro e w4 ⟨rfl,rfl⟩)
   | (go_at_call 160;refine(hn.out _ _).mono ?_;rintro e w5 ⟨rfl,rfl⟩))
  all_goals go_returns;all_goals first|exact⟨rfl,hb⟩|(exfalso;clear wa wb;omega)
def RowAt (w:World) (v:Value) (l:List Nat):Prop:=∃ A c,v=.slice A l.length c/\(0<l.length->∃ g off,A=some ⟨g,off,none⟩/\∀ j {x},l[j]? =some x->w.cell? ⟨g,off+j,none⟩=some (.int .i64 ((x:Nat):Int)))
theorem zBf {ops:Array Oper} {rest:List Oper} {o:Oper} {a:Act} {w:World} {Q:Exit->Act->World->Prop} (hgd:o.guard=none) (s x:Operand)
  (ho:o.op=.call { callee:=.builtin .append,args:=#[s,x],argTypes:=#[94,94] })
  (base:Nat) (v:Value) (xs:List Nat) (hs:a.eval s=v) (hown:w.ownsRow base 3 1 v xs.length (Ints xs)) (vx:Value) (l:List Nat) (hx:a.eval x=vx) (hr:RowAt w vx l) (hlen:xs.length+l.length<=1000000) (hbase:base<=w.heap.size)
  (h:∀ v' w',w'.ownsRow base 3 1 v' (xs++l).length (Ints (xs++l))->w.grownBy w' v.ownBlock->wpList prog ops Q rest (a.put o.dst v') w'):wpList prog ops Q (o::rest) a w:=by
 obtain⟨i0,hi,hc,hd,he⟩:=info_parts infoInt;obtain⟨A,c,rfl,hl⟩:=hr;have hml:maxLen=9223372036854775807:=by decide
 cases A with
 | none =>
   have h0:l=[]:=by
    cases l with
    | nil=>rfl
    | cons y l =>
      obtain⟨g,off,e,_⟩:=hl (by simp);cases e
   subst h0;refine wpList_plain hgd fun K hK=> ?_;have hb:=row_append_none w base v xs.length c (Ints xs) hown o.type;unfold Oper.wp;simp[execOp,ho,resolve,invoke,builtin,hs,hx,hb,Result.andThen];exact hK _ _ (h v w (by simpa using hown) (grown_refl w _))
 | some ad =>
   refine wpList_append_own _ hgd s x 94 ho base 3 i0 (.int .i64 0) 1 8 underlying94 hi hc hd he rfl (by decide) v xs.length (Ints xs) hs hown ad l.length c (Ints l) hx (by simp[Ints]) (fun j u hu=> ?_) (fun u hu=> ?_) (by omega) (by omega) hbase (fun v' w' h1 h2 _=>h v' w' (by rw[ints_append,List.length_append];exact h1) h2)
   ·have hj:j<l.length:=by have:=(List.getElem?_eq_some_iff.1 hu).1;simpa [Ints] using this
    obtain⟨g,off,e,ha⟩:=hl (by omega);cases e;have e2:(⟨g,off,none⟩:Addr).add j=⟨g,off+j,none⟩:=by unfold Addr.add;split<;>simp_all
    rw[e2];have h3:=ha j (Q5 hj);rw[ints_get hj,List.getD,Q5 hj] at hu;rw[h3];exact hu
   ·unfold Ints at hu;obtain⟨y,_,rfl⟩:=List.mem_map.1 hu
    rfl
theorem rowAt_off {w:World} {g n c':Nat} {l:List Nat} {j:Nat} (hn:l.length=n) (hc:∀ i {x},l[i]? =some x->w.cell? ⟨g,i,none⟩=some (.int .i64 ((x:Nat):Int))):RowAt w (.slice (some ⟨g,j,none⟩) (n-j) c') (l.drop j):=by
 refine⟨_,c',by rw[QA,hn],fun _=>⟨g,j,rfl,fun i x hx=> ?_⟩⟩;rw[List.getElem?_drop] at hx;exact hc (j+i) hx
theorem slice_facts {j len c:Nat} (h:j<len) (hc:len<=c): ¬ c=j/\¬ j=c/\¬ c-j=0/\¬ len-j=0/\¬ len=j/\¬ len<=j/\¬ c<=j:=by refine⟨?_,?_,?_,?_,?_,?_,?_⟩<;>omega
theorem power_one (x:Int) (hx:In63 x) (n:Int) (k:Nat) (hnk:n=(k:Int)) (hk1:k=1) (hk:k<=64) (w:World):Rt 102 #[.int .i64 x,.int .i64 n] w (.tuple #[.int .i64 (signX (cutX (x.natAbs ^ k) k) (lowX x&&k % 2 != 0)).1,.int .i64 (signX (cutX (x.natAbs ^ k) k) (lowX x&&k % 2 != 0)).2]):=by
 have hz:Is64 x:=by unfold In63 at hx;unfold Is64;omega
 have HZ:=zh (r1_size x hz);have k1:decide ((-9223372036854775807:Int)<=x)=true:=decide_eq_true hx.1;have lm:x.natAbs<18446744073709551616:=by unfold In63 at hx;omega
 obtain⟨y,hy⟩:=lt_ (lowX x);obtain⟨m,hm⟩:=lt_ x.natAbs;rw[hm,hy] at HZ ⊢;rw[hm] at lm;have hu:=pow_len lm k;obtain⟨p,ht⟩:=lt_ (m ^ k);have HG:=zh (fun w=>r1_great m lm w);have hp:=zh (fun v w2 h=>r1_raised m k lm hk v w2 h);rw[ht,<-hnk] at hp;rw[ht] at hu ⊢;obtain⟨j,hj⟩:=lt_ (k-1);have n1: ¬ n< -64:=by omega
 have n2: ¬ (64:Int)<n:=by omega
 have n3: ¬ n=0:=by omega
 have n4: ¬ n<0:=by omega
 obtain⟨pb,hs⟩:=lt_ (k % 2 != 0);rw[hs];obtain⟨m2,hC,wm2,hD⟩:∃ m2:Int,n.tmod 2=m2/\wrap64 m2=m2/\(m2 != 0)=pb:=by
  refine⟨_,rfl,?_,?_⟩
  ·rw[hnk,Q3 (by omega)];unfold wrap64;omega
  ·rw[<- hs,hnk,Q3 (by omega)];have e:((k:Int) % 2=0) ↔ (k % 2=0):=by omega
   by_cases h2:k % 2=0
   ·rw[show (k % 2 != 0)=false by simp[h2],show ((k:Int) % 2 != 0)=false by simp[e.2 h2]]
   ·rw[show (k % 2 != 0)=true from bne_iff_ne.2 h2,show ((k:Int) % 2 != 0)=true from bne_iff_ne.2 fun e2=>h2 (e.1 e2)]
 have wa:Q7.wrap (n-1)=(j:Int):=by clear hC wm2 hD;rw[Q4];omega
 have wb:Q7.wrap n=(k:Int):=by clear hC wm2 hD;rw[Q4];omega
 have HNK:=zh hnk;obtain⟨Pd,hh⟩:=lt_ (digs p);rw[hh] at hp hu;have HPD:=zh hh;obtain⟨len,hd⟩:=lt_ Pd.length;have hb:=zh hd;by_cases hfew:len<j
 ·have e:cutX p k=0:=cut_few (by omega) (by rw[hh,hd,hj];exact hfew);rw[e,show signX 0 (y&&pb)=(0,0) by unfold signX;rw[if_neg (by decide)];split<;>rfl];have hI:(len:Int)<(j:Int):=by omega
  clear hnk hy hm lm hu ht hj hh hd hx hz e hk hk1 hs hC wm2 hD;go_enter func102,ntmps102;go_wp2_with(first
   | (go_at_call 95;refine(zAL _ _).mono ?_;rintro e w1 ⟨rfl,rfl⟩)
   | (go_at_call 159;refine(HZ.out _).mono ?_;rintro e w1 ⟨rfl,rfl⟩)
   | (go_at_call 157;refine(HG.out _).mono ?_;rintro e w1 ⟨v1,rfl,hv,b1⟩)
   | (go_at_call 162;refine(hp.out _ _ hv).mono ?_;rintro e w2 ⟨v2,rfl,⟨A,c,rfl,hc,hcell⟩,b2⟩;rw[hb.out];have c2:=b1.trans (b2.mono b1.size)))
  all_goals(go_returns;exact⟨rfl,c2⟩)
 ·have hI: ¬ (len:Int)<(j:Int):=by omega
  have hjl:(j:Int)<=(len:Int):=by omega
  have hn:digs (p / 10000 ^ j)=Pd.drop j:=by rw[<- hh,digs_drop]
  have hw:(Pd.drop j).length<=1000:=by rw[QA];omega
  have hr:Low (Pd.drop j):=fun a ha=>zAs p a (by rw[hh];exact List.mem_of_mem_drop ha);have hl:valL (Pd.drop j)=p / 10000 ^ j:=by rw[<- hn,zAl]
  have hG:=zh hw;have hE:j=0:=by omega
  have n6: ¬ (1:Int)<n:=by omega
  by_cases hl0:len=0
  ·have hF:p=0:=by
    have h3:=zAl p;rw[hh,List.eq_nil_of_length_eq_zero (show Pd.length=0 by omega)] at h3;exact h3.symm
   have e:cutX p k=0:=by rw[hF,hk1];decide
   rw[e];obtain⟨V,hV⟩:∃ V,V=0:=⟨_,rfl⟩
   rw[<- hV];have hi:=zh (fun v w2 h=>r1_small V v (by rw[hV,digs_zero];decide) w2 h);rw[hV,digs_zero] at hi;have hN:len-j=0:=by omega
   have hO:len=j:=by omega
   rw[<- hV] at hi;have hq:=small_le V;rw[sign_small];obtain⟨S,hS⟩:=lt_ (smallX V);rw[hS] at hi hq ⊢;obtain⟨s,ok⟩:=S;have hA:=zh (fun b=>zBJ s hq b);clear hnk hy hm lm hu ht hh hd hx hz hn hw hr hl hV hS e hs hk hj hE hl0 hF hk1;rcases(show ok=false∨(ok=true/\y=false)∨(ok=true/\y=true) by cases ok<;>cases y<;>simp) with rfl|⟨rfl,rfl⟩|⟨rfl,rfl⟩
   all_goals go_enter func102,ntmps102;all_goals go_wp2_with(first
    | (go_at_call 95;refine(zAL _ _).mono ?_;rintro e w1 ⟨rfl,rfl⟩)
    | (go_at_call 159;refine(HZ.out _).mono ?_;rintro e w1 ⟨rfl,rfl⟩)
    | (go_at_call 157;refine(HG.out _).mono ?_;rintro e w1 ⟨v1,rfl,hv,b1⟩)
    | (go_at_call 162;refine(hp.out _ _ hv).mono ?_;rintro e w2 ⟨v2,rfl,⟨A,c,rfl,hc,hcell⟩,b2⟩;rw[hb.out];rw[hb.out] at hc;have c2:=b1.trans (b2.mono b1.size);clear hcell)
    | (at_builtin;refine zBf rfl _ _ rfl w2.heap.size _ [] rfl (Q9 _ _ _ _) _ [] rfl ⟨_,_,rfl,fun h=>absurd h (by decide)⟩ (by decide) (Q8 _) ?_;intro v3 w3 he hB;have b3:=(show Below w2.heap.size w2 w2 from bel).grown hB (Q8 _) (fun k hk=>by cases hk);have c3:=c2.trans (b3.mono c2.size);have hf:=zBL he)
    | (go_at_call 163;refine(hi.out _ _ hf).mono ?_;rintro e w4 ⟨rfl,rfl⟩)
    | (go_at_call 160;refine(hA.out _ _).mono ?_;rintro e w6 ⟨rfl,rfl⟩))
   all_goals go_returns;all_goals first|exact⟨rfl,c3⟩|(exfalso;clear wa wb;omega)
  ·have hM:0<len:=by omega
   have e:cutX p k=p / 10000 ^ j:=by unfold cutX;rw[if_neg (fun h=>by omega),hj];rfl
   rw[e];obtain⟨V,hV⟩:=lt_ (p / 10000 ^ j);rw[hV] at hn hl ⊢;have hi:=zh (fun v w2 h=>r1_small V v (by rw[hn];exact hw) w2 h);have hH:=zh hn;have hJ:j<len:=by omega
   have hq:=small_le V;rw[sign_small];obtain⟨S,hS⟩:=lt_ (smallX V);rw[hS] at hi hq ⊢;obtain⟨s,ok⟩:=S;have hA:=zh (fun b=>zBJ s hq b);clear hnk hy hm lm hu ht hh hd hx hz hn hw hr hl hV hS e hs hk hj hE hk1;rcases(show ok=false∨(ok=true/\y=false)∨(ok=true/\y=true) by cases ok<;>cases y<;>simp) with rfl|⟨rfl,rfl⟩|⟨rfl,rfl⟩
   all_goals go_enter func102,ntmps102;all_goals go_wp2_with(first
    | (go_at_call 95;refine(zAL _ _).mono ?_;rintro e w1 ⟨rfl,rfl⟩)
    | (go_at_call 159;refine(HZ.out _).mono ?_;rintro e w1 ⟨rfl,rfl⟩)
    | (go_at_call 157;refine(HG.out _).mono ?_;rintro e w1 ⟨v1,rfl,hv,b1⟩)
    | (go_at_call 162;refine(hp.out _ _ hv).mono ?_;rintro e w2 ⟨v2,rfl,⟨A,c,rfl,hc,hcell⟩,b2⟩;rw[hb.out];rw[hb.out] at hc hcell;obtain⟨g,rfl,hg,hcell⟩:=hcell hM;obtain⟨hjc,hK,hL,hlj,hP,hQ,hR⟩:=slice_facts hJ hc;have c2:=b1.trans (b2.mono b1.size);have ho:=zh @hcell;clear hcell)
    | (at_builtin;refine zBf rfl _ _ rfl w2.heap.size _ [] rfl (Q9 _ _ _ _) (.slice (some ⟨g,j,none⟩) (len-j) (c-j)) (Pd.drop j) rfl (rowAt_off hb.out ho.out) (by simpa using Nat.le_trans hG.out (by decide)) (Q8 _) ?_;intro v3 w3 he hB;have b3:=(show Below w2.heap.size w2 w2 from bel).grown hB (Q8 _) (fun k hk=>by cases hk);have c3:=c2.trans (b3.mono c2.size);have hf:=zBL he)
    | (go_at_call 163;refine(hi.out _ _ (by rw[hH.out];exact hf)).mono ?_;rintro e w4 ⟨rfl,rfl⟩)
    | (go_at_call 160;refine(hA.out _ _).mono ?_;rintro e w6 ⟨rfl,rfl⟩))
   all_goals go_returns;all_goals first|exact⟨rfl,c3⟩|(exfalso;clear wa wb;omega)
end Go.Proofs.YtnccknhbplaieaaGreatDoor
