/- Parts. -/
import Derived.Test.YtnccknhbplaieaaGreatDoorC27
set_option linter.all false
set_option maxRecDepth 100000
set_option maxHeartbeats 4000000
namespace Go.Proofs.YtnccknhbplaieaaGreatDoor
open Go Go.RowKit Go.Proofs.Tryz
open Go.Lib renaming hid->zh
open _root_.Nat renaming le_refl->Q3,le_trans->Q8
open Go.World renaming ownsRow_nil->Q4
open _root_.Int renaming tmod_eq_emod_of_nonneg->Q5
open Go.IntKind renaming wrap_i64->Q7,i64->Q9
open _root_.List renaming length_drop->QA
theorem power_two (x:Int) (hx:In63 x) (n:Int) (k:Nat) (hnk:n=(k:Int)) (hk1:2<=k) (hk:k<=64) (w:World):Rt 102 #[.int .i64 x,.int .i64 n] w (.tuple #[.int .i64 (signX (cutX (x.natAbs ^ k) k) (lowX x&&k % 2 != 0)).1,.int .i64 (signX (cutX (x.natAbs ^ k) k) (lowX x&&k % 2 != 0)).2]):=by
 have hJ:Is64 x:=by unfold In63 at hx;unfold Is64;omega
 have HZ:=zh (r1_size x hJ);have k1:decide ((-9223372036854775807:Int)<=x)=true:=decide_eq_true hx.1;have lm:x.natAbs<18446744073709551616:=by unfold In63 at hx;omega
 obtain⟨y,hy⟩:=lt_ (lowX x);obtain⟨m,hm⟩:=lt_ x.natAbs;rw[hm,hy] at HZ ⊢;rw[hm] at lm;have hE:=pow_len lm k;obtain⟨p,hD⟩:=lt_ (m ^ k);have HG:=zh (fun w=>r1_great m lm w);have hz:=zh (fun v w2 h=>r1_raised m k lm hk v w2 h);rw[hD,<-hnk] at hz;rw[hD] at hE ⊢;obtain⟨j,hj⟩:=lt_ (k-1);have n1: ¬ n< -64:=by omega
 have n2: ¬ (64:Int)<n:=by omega
 have n3: ¬ n=0:=by omega
 have n4: ¬ n<0:=by omega
 obtain⟨pb,hC⟩:=lt_ (k % 2 != 0);rw[hC];obtain⟨m2,hH,wm2,hI⟩:∃ m2:Int,n.tmod 2=m2/\wrap64 m2=m2/\(m2 != 0)=pb:=by
  refine⟨_,rfl,?_,?_⟩
  ·rw[hnk,Q5 (by omega)];unfold wrap64;omega
  ·rw[<- hC,hnk,Q5 (by omega)];have e:((k:Int) % 2=0) ↔ (k % 2=0):=by omega
   by_cases h2:k % 2=0
   ·rw[show (k % 2 != 0)=false by simp[h2],show ((k:Int) % 2 != 0)=false by simp[e.2 h2]]
   ·rw[show (k % 2 != 0)=true from bne_iff_ne.2 h2,show ((k:Int) % 2 != 0)=true from bne_iff_ne.2 fun e2=>h2 (e.1 e2)]
 have wa:Q9.wrap (n-1)=(j:Int):=by clear hH wm2 hI;rw[Q7];omega
 have wb:Q9.wrap n=(k:Int):=by clear hH wm2 hI;rw[Q7];omega
 have HNK:=zh hnk;obtain⟨Pd,ho⟩:=lt_ (digs p);rw[ho] at hz hE;have HPD:=zh ho;obtain⟨len,hl⟩:=lt_ Pd.length;have he:=zh hl;by_cases hfew:len<j
 ·have e:cutX p k=0:=cut_few (by omega) (by rw[ho,hl,hj];exact hfew);rw[e,show signX 0 (y&&pb)=(0,0) by unfold signX;rw[if_neg (by decide)];split<;>rfl];have Ha:(len:Int)<(j:Int):=by omega
  clear hnk hy hm lm hE hD hj ho hl hx hJ e hk hk1 hC hH wm2 hI;go_enter func102,ntmps102;go_wp2_with(first
   | (go_at_call 95;refine(zAL _ _).mono ?_;rintro e w1 ⟨rfl,rfl⟩)
   | (go_at_call 159;refine(HZ.out _).mono ?_;rintro e w1 ⟨rfl,rfl⟩)
   | (go_at_call 157;refine(HG.out _).mono ?_;rintro e w1 ⟨v1,rfl,hw,b1⟩)
   | (go_at_call 162;refine(hz.out _ _ hw).mono ?_;rintro e w2 ⟨v2,rfl,⟨A,c,rfl,hc,hcell⟩,b2⟩;rw[he.out];have c2:=b1.trans (b2.mono b1.size)))
  all_goals(go_returns;exact⟨rfl,c2⟩)
 ·have Ha: ¬ (len:Int)<(j:Int):=by omega
  have hjl:(j:Int)<=(len:Int):=by omega
  have ht:digs (p / 10000 ^ j)=Pd.drop j:=by rw[<- ho,digs_drop]
  have hv:(Pd.drop j).length<=1000:=by rw[QA];omega
  have hq:Low (Pd.drop j):=fun a ha=>zAs p a (by rw[ho];exact List.mem_of_mem_drop ha);have hn:valL (Pd.drop j)=p / 10000 ^ j:=by rw[<- ht,zAl]
  have hM:=zh hv;obtain⟨i,hi⟩:=lt_ (k-2);have n6:(1:Int)<n:=by omega
  have hO:0<len:=by omega
  have hN:i<len:=by omega
  have hp:Pd[i]? =some (Pd.getD i 0):=by rw[List.getD,List.getElem?_eq_getElem (show i<Pd.length by omega)];rfl
  have hG:Pd.getD i 0=p / 10000 ^ i % 10000:=by rw[<- ho,digs_getD]
  obtain⟨d,hd⟩:=lt_ (Pd.getD i 0);rw[hd] at hp hG;have hu:=zh hp;have e:cutX p k=p / 10000 ^ j+(if 5000<=d then 1 else 0):=by
   unfold cutX;rw[hj,hi,<-hG];by_cases h5:5000<=d
   ·rw[if_pos ⟨by omega,h5⟩,if_pos h5]
   ·rw[if_neg (fun h=>h5 h.2),if_neg h5]
  rw[e];have Hb:(i:Int)<(len:Int):=by omega
  have wi:Q9.wrap (n-2)=(i:Int):=by clear wa wb hH wm2 hI;rw[Q7];omega
  by_cases hjl0:j=len
  ·have He:len-j=0:=by omega
   have Hf:len=j:=by omega
   have hF:=zh (show (Pd.drop j).length=0 by rw[QA];omega);by_cases h5:5000<=d
   ·have hQ:(5000:Int)<=(d:Int):=by omega
    rw[if_pos h5];obtain⟨V,hV⟩:=lt_ (p / 10000 ^ j+1);have hK:=zh (fun v w2 h=>r1_next (Pd.drop j) hq v hv w2 h);rw[hn,hV] at hK;rw[hV];have hL:(digs V).length<=1000:=by
     clear wa wb wi hH wm2 hI;have h3:=val_lt (digs p) (zAs p);rw[zAl,ho,hl] at h3;have h4:p / 10000 ^ j<=p:=Nat.div_le_self _ _;have h6:V<10000 ^ (len+1):=by rw[Nat.pow_succ];omega
     have h7:=zB6 _ _ h6;omega
    have hr:=zh (fun v w2 h=>r1_small V v hL w2 h);clear hd hp hG hi hN hjl0 h5 hL;have hs:=small_le V;rw[sign_small];obtain⟨S,hS⟩:=lt_ (smallX V);rw[hS] at hr hs ⊢;obtain⟨s,ok⟩:=S;have hA:=zh (fun b=>zBJ s hs b);clear hnk hy hm lm hE hD ho hl hx hJ ht hv hq hn hV hS e hC hk hj;rcases(show ok=false∨(ok=true/\y=false)∨(ok=true/\y=true) by cases ok<;>cases y<;>simp) with rfl|⟨rfl,rfl⟩|⟨rfl,rfl⟩
    all_goals go_enter func102,ntmps102;all_goals go_wp2_with(first
     | (go_at_call 95;refine(zAL _ _).mono ?_;rintro e w1 ⟨rfl,rfl⟩)
     | (go_at_call 159;refine(HZ.out _).mono ?_;rintro e w1 ⟨rfl,rfl⟩)
     | (go_at_call 157;refine(HG.out _).mono ?_;rintro e w1 ⟨v1,rfl,hw,b1⟩)
     | (go_at_call 162;refine(hz.out _ _ hw).mono ?_;rintro e w2 ⟨v2,rfl,⟨A,c,rfl,hc,hcell⟩,b2⟩;rw[he.out];rw[he.out] at hc hcell;obtain⟨g,rfl,hg,hcell⟩:=hcell hO;have c2:=b1.trans (b2.mono b1.size);have hb:=zh @hcell;clear hcell)
     | (at_builtin;refine zBf rfl _ _ rfl w2.heap.size _ [] rfl (Q4 _ _ _ _) _ (Pd.drop j) rfl ⟨_,_,by first|(rw[hF.out];done)|(rw[hF.out];rfl),fun h=>absurd h (by rw[hF.out];decide)⟩ (by simpa using Q8 hM.out (by decide)) (Q3 _) ?_;intro v3 w3 hf hB;have b3:=(show Below w2.heap.size w2 w2 from bel).grown hB (Q3 _) (fun k hk=>by cases hk);have c3:=c2.trans (b3.mono c2.size);have hh:=zBL hf;have d0:=(b3.cell (p:=⟨g,i,none⟩) hg).trans (hb.out i hu.out))
     | (go_at_call 164;refine(hK.out _ _ hh).mono ?_;rintro e w5 ⟨v5,rfl,hY,b5⟩;have c5:=c3.trans (b5.mono c3.size))
     | (go_at_call 163;refine(hr.out _ _ hY).mono ?_;rintro e w4 ⟨rfl,rfl⟩)
     | (go_at_call 160;refine(hA.out _ _).mono ?_;rintro e w6 ⟨rfl,rfl⟩))
    all_goals go_returns;all_goals first|exact⟨rfl,c5⟩|(exfalso;clear wa wb wi;omega)
   ·have hQ: ¬ (5000:Int)<=(d:Int):=by omega
    rw[if_neg h5,Nat.add_zero];obtain⟨V,hV⟩:=lt_ (p / 10000 ^ j);rw[hV] at ht hn ⊢;have hr:=zh (fun v w2 h=>r1_small V v (by rw[ht];exact hv) w2 h);have hP:=zh ht;clear hd hp hG hi hN hjl0 h5;have hs:=small_le V;rw[sign_small];obtain⟨S,hS⟩:=lt_ (smallX V);rw[hS] at hr hs ⊢;obtain⟨s,ok⟩:=S;have hA:=zh (fun b=>zBJ s hs b);clear hnk hy hm lm hE hD ho hl hx hJ ht hv hq hn hV hS e hC hk hj;rcases(show ok=false∨(ok=true/\y=false)∨(ok=true/\y=true) by cases ok<;>cases y<;>simp) with rfl|⟨rfl,rfl⟩|⟨rfl,rfl⟩
    all_goals go_enter func102,ntmps102;all_goals go_wp2_with(first
     | (go_at_call 95;refine(zAL _ _).mono ?_;rintro e w1 ⟨rfl,rfl⟩)
     | (go_at_call 159;refine(HZ.out _).mono ?_;rintro e w1 ⟨rfl,rfl⟩)
     | (go_at_call 157;refine(HG.out _).mono ?_;rintro e w1 ⟨v1,rfl,hw,b1⟩)
     | (go_at_call 162;refine(hz.out _ _ hw).mono ?_;rintro e w2 ⟨v2,rfl,⟨A,c,rfl,hc,hcell⟩,b2⟩;rw[he.out];rw[he.out] at hc hcell;obtain⟨g,rfl,hg,hcell⟩:=hcell hO;have c2:=b1.trans (b2.mono b1.size);have hb:=zh @hcell;clear hcell)
     | (at_builtin;refine zBf rfl _ _ rfl w2.heap.size _ [] rfl (Q4 _ _ _ _) _ (Pd.drop j) rfl ⟨_,_,by first|(rw[hF.out];done)|(rw[hF.out];rfl),fun h=>absurd h (by rw[hF.out];decide)⟩ (by simpa using Q8 hM.out (by decide)) (Q3 _) ?_;intro v3 w3 hf hB;have b3:=(show Below w2.heap.size w2 w2 from bel).grown hB (Q3 _) (fun k hk=>by cases hk);have c3:=c2.trans (b3.mono c2.size);have hh:=zBL hf;have d0:=(b3.cell (p:=⟨g,i,none⟩) hg).trans (hb.out i hu.out))
     | (go_at_call 163;refine(hr.out _ _ (by rw[hP.out];exact hh)).mono ?_;rintro e w4 ⟨rfl,rfl⟩)
     | (go_at_call 160;refine(hA.out _ _).mono ?_;rintro e w6 ⟨rfl,rfl⟩))
    all_goals go_returns;all_goals first|exact⟨rfl,c3⟩|(exfalso;clear wa wb wi;omega)
  ·have hZ:j<len:=by omega
   by_cases h5:5000<=d
   ·have hQ:(5000:Int)<=(d:Int):=by omega
    rw[if_pos h5];obtain⟨V,hV⟩:=lt_ (p / 10000 ^ j+1);have hK:=zh (fun v w2 h=>r1_next (Pd.drop j) hq v hv w2 h);rw[hn,hV] at hK;rw[hV];have hL:(digs V).length<=1000:=by
     clear wa wb wi hH wm2 hI;have h3:=val_lt (digs p) (zAs p);rw[zAl,ho,hl] at h3;have h4:p / 10000 ^ j<=p:=Nat.div_le_self _ _;have h6:V<10000 ^ (len+1):=by rw[Nat.pow_succ];omega
     have h7:=zB6 _ _ h6;omega
    have hr:=zh (fun v w2 h=>r1_small V v hL w2 h);clear hd hp hG hi hN hjl0 h5 hL;have hs:=small_le V;rw[sign_small];obtain⟨S,hS⟩:=lt_ (smallX V);rw[hS] at hr hs ⊢;obtain⟨s,ok⟩:=S;have hA:=zh (fun b=>zBJ s hs b);clear hnk hy hm lm hE hD ho hl hx hJ ht hv hq hn hV hS e hC hk hj;rcases(show ok=false∨(ok=true/\y=false)∨(ok=true/\y=true) by cases ok<;>cases y<;>simp) with rfl|⟨rfl,rfl⟩|⟨rfl,rfl⟩
    all_goals go_enter func102,ntmps102;all_goals go_wp2_with(first
     | (go_at_call 95;refine(zAL _ _).mono ?_;rintro e w1 ⟨rfl,rfl⟩)
     | (go_at_call 159;refine(HZ.out _).mono ?_;rintro e w1 ⟨rfl,rfl⟩)
     | (go_at_call 157;refine(HG.out _).mono ?_;rintro e w1 ⟨v1,rfl,hw,b1⟩)
     | (go_at_call 162;refine(hz.out _ _ hw).mono ?_;rintro e w2 ⟨v2,rfl,⟨A,c,rfl,hc,hcell⟩,b2⟩;rw[he.out];rw[he.out] at hc hcell;obtain⟨g,rfl,hg,hcell⟩:=hcell hO;obtain⟨Hc,hR,hT,Hd,hU,hW,hX⟩:=slice_facts hZ hc;have c2:=b1.trans (b2.mono b1.size);have hb:=zh @hcell;clear hcell)
     | (at_builtin;refine zBf rfl _ _ rfl w2.heap.size _ [] rfl (Q4 _ _ _ _) (.slice (some ⟨g,j,none⟩) (len-j) (c-j)) (Pd.drop j) rfl (rowAt_off he.out hb.out) (by simpa using Q8 hM.out (by decide)) (Q3 _) ?_;intro v3 w3 hf hB;have b3:=(show Below w2.heap.size w2 w2 from bel).grown hB (Q3 _) (fun k hk=>by cases hk);have c3:=c2.trans (b3.mono c2.size);have hh:=zBL hf;have d0:=(b3.cell (p:=⟨g,i,none⟩) hg).trans (hb.out i hu.out))
     | (go_at_call 164;refine(hK.out _ _ hh).mono ?_;rintro e w5 ⟨v5,rfl,hY,b5⟩;have c5:=c3.trans (b5.mono c3.size))
     | (go_at_call 163;refine(hr.out _ _ hY).mono ?_;rintro e w4 ⟨rfl,rfl⟩)
     | (go_at_call 160;refine(hA.out _ _).mono ?_;rintro e w6 ⟨rfl,rfl⟩))
    all_goals go_returns;all_goals first|exact⟨rfl,c5⟩|(exfalso;clear wa wb wi;omega)
   ·have hQ: ¬ (5000:Int)<=(d:Int):=by omega
    rw[if_neg h5,Nat.add_zero];obtain⟨V,hV⟩:=lt_ (p / 10000 ^ j);rw[hV] at ht hn ⊢;have hr:=zh (fun v w2 h=>r1_small V v (by rw[ht];exact hv) w2 h);have hP:=zh ht;clear hd hp hG hi hN hjl0 h5;have hs:=small_le V;rw[sign_small];obtain⟨S,hS⟩:=lt_ (smallX V);rw[hS] at hr hs ⊢;obtain⟨s,ok⟩:=S;have hA:=zh (fun b=>zBJ s hs b);clear hnk hy hm lm hE hD ho hl hx hJ ht hv hq hn hV hS e hC hk hj;rcases(show ok=false∨(ok=true/\y=false)∨(ok=true/\y=true) by cases ok<;>cases y<;>simp) with rfl|⟨rfl,rfl⟩|⟨rfl,rfl⟩
    all_goals go_enter func102,ntmps102;all_goals go_wp2_with(first
     | (go_at_call 95;refine(zAL _ _).mono ?_;rintro e w1 ⟨rfl,rfl⟩)
     | (go_at_call 159;refine(HZ.out _).mono ?_;rintro e w1 ⟨rfl,rfl⟩)
     | (go_at_call 157;refine(HG.out _).mono ?_;rintro e w1 ⟨v1,rfl,hw,b1⟩)
     | (go_at_call 162;refine(hz.out _ _ hw).mono ?_;rintro e w2 ⟨v2,rfl,⟨A,c,rfl,hc,hcell⟩,b2⟩;rw[he.out];rw[he.out] at hc hcell;obtain⟨g,rfl,hg,hcell⟩:=hcell hO;obtain⟨Hc,hR,hT,Hd,hU,hW,hX⟩:=slice_facts hZ hc;have c2:=b1.trans (b2.mono b1.size);have hb:=zh @hcell;clear hcell)
     | (at_builtin;refine zBf rfl _ _ rfl w2.heap.size _ [] rfl (Q4 _ _ _ _) (.slice (some ⟨g,j,none⟩) (len-j) (c-j)) (Pd.drop j) rfl (rowAt_off he.out hb.out) (by simpa using Q8 hM.out (by decide)) (Q3 _) ?_;intro v3 w3 hf hB;have b3:=(show Below w2.heap.size w2 w2 from bel).grown hB (Q3 _) (fun k hk=>by cases hk);have c3:=c2.trans (b3.mono c2.size);have hh:=zBL hf;have d0:=(b3.cell (p:=⟨g,i,none⟩) hg).trans (hb.out i hu.out))
     | (go_at_call 163;refine(hr.out _ _ (by rw[hP.out];exact hh)).mono ?_;rintro e w4 ⟨rfl,rfl⟩)
     | (go_at_call 160;refine(hA.out _ _).mono ?_;rintro e w6 ⟨rfl,rfl⟩))
    all_goals go_returns;all_goals first|exact⟨rfl,c3⟩|(exfalso;clear wa wb wi;omega)
theorem power_pos (x:Int) (hx:In63 x) (n:Int) (k:Nat) (hnk:n=(k:Int)) (hk1:1<=k) (hk:k<=64) (w:World):Rt 102 #[.int .i64 x,.int .i64 n] w (.tuple #[.int .i64 (signX (cutX (x.natAbs ^ k) k) (lowX x&&k % 2 != 0)).1,.int .i64 (signX (cutX (x.natAbs ^ k) k) (lowX x&&k % 2 != 0)).2]):=by
 by_cases h1:k=1
 ·exact power_one x hx n k hnk h1 hk w
 ·exact power_two x hx n k hnk (by omega) hk w
end Go.Proofs.YtnccknhbplaieaaGreatDoor
