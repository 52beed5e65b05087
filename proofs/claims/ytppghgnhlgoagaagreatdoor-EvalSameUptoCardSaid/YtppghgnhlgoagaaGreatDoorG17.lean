/- Parts. -/
import Derived.Test.YtppghgnhlgoagaaGreatDoorG16
set_option linter.all false
set_option maxRecDepth 100000
set_option maxHeartbeats 4000000
namespace Go.Proofs.YtppghgnhlgoagaaGreatDoor
open Go Go.RowKit
open Go.Lib renaming hid->zh
theorem eval_compared (op:Int) (h8:8<=op) (h13:op<=13) (a b:V) (w:World):Rt 42 #[.int .i64 op,(vG a),(vG b)] w (vG (zBy op a b)):=by
 by_cases h1:a.tag=4
 ·rw[show zBy op a b=a from if_pos h1]
  have k1:(a.tag==4)=true:=by simp[h1]
  clear h1 h8 h13
  go_enter Tryz.func42,Tryz.ntmps42
  go_wp2
  go_returns
  exact⟨rfl,bel⟩
 by_cases h2:b.tag=4
 ·rw[show zBy op a b=b by unfold zBy;rw[if_neg h1,if_pos h2]]
  have k1:(a.tag==4)=false:=by simp[h1]
  have k2:(b.tag==4)=true:=by simp[h2]
  clear h1 h2 h8 h13
  go_enter Tryz.func42,Tryz.ntmps42
  go_wp2
  go_returns
  exact⟨rfl,bel⟩
 have e:zBy op a b=zC1 (relX op (cmpV a b)):=by unfold zBy;rw[if_neg h1,if_neg h2]
 have k1:(a.tag==4)=false:=by simp[h1]
 have k2:(b.tag==4)=false:=by simp[h2]
 obtain⟨k,hk⟩:∃ k,cmpV a b=k:=⟨_,rfl⟩
 rw[e,hk]
 have HK:=zh hk
 clear e hk h1 h2
 have h:op=8∨op=9∨op=10∨op=11∨op=12∨op=13:=by omega
 clear h8 h13
 rcases h with rfl|rfl|rfl|rfl|rfl|rfl
 ·rw[show relX 8 k=(k==0) from rfl]
  go_enter Tryz.func42,Tryz.ntmps42
  go_wp2_with(first
   | (go_at_call 65;refine(zBe a b _).mono ?_;rw[HK.out];rintro e w1 ⟨rfl,hb⟩;obtain⟨l,m,rfl⟩:=zA0 hb;clear hb)
   | (go_at_call 66;refine mB (zB2 _ _) ?_;intro l m))
  go_returns
  exact⟨rfl,bel⟩
 ·rw[show relX 9 k=(k != 0) from rfl]
  go_enter Tryz.func42,Tryz.ntmps42
  go_wp2_with(first
   | (go_at_call 65;refine(zBe a b _).mono ?_;rw[HK.out];rintro e w1 ⟨rfl,hb⟩;obtain⟨l,m,rfl⟩:=zA0 hb;clear hb)
   | (go_at_call 66;refine mB (zB2 _ _) ?_;intro l m))
  go_returns
  exact⟨rfl,bel⟩
 ·rw[show relX 10 k=decide (k<0) from rfl]
  go_enter Tryz.func42,Tryz.ntmps42
  go_wp2_with(first
   | (go_at_call 65;refine(zBe a b _).mono ?_;rw[HK.out];rintro e w1 ⟨rfl,hb⟩;obtain⟨l,m,rfl⟩:=zA0 hb;clear hb)
   | (go_at_call 66;refine mB (zB2 _ _) ?_;intro l m))
  go_returns
  exact⟨rfl,bel⟩
 ·rw[show relX 11 k=decide (k<=0) from rfl]
  go_enter Tryz.func42,Tryz.ntmps42
  go_wp2_with(first
   | (go_at_call 65;refine(zBe a b _).mono ?_;rw[HK.out];rintro e w1 ⟨rfl,hb⟩;obtain⟨l,m,rfl⟩:=zA0 hb;clear hb)
   | (go_at_call 66;refine mB (zB2 _ _) ?_;intro l m))
  go_returns
  exact⟨rfl,bel⟩
 ·rw[show relX 12 k=decide (0<k) from rfl]
  go_enter Tryz.func42,Tryz.ntmps42
  go_wp2_with(first
   | (go_at_call 65;refine(zBe a b _).mono ?_;rw[HK.out];rintro e w1 ⟨rfl,hb⟩;obtain⟨l,m,rfl⟩:=zA0 hb;clear hb)
   | (go_at_call 66;refine mB (zB2 _ _) ?_;intro l m))
  go_returns
  exact⟨rfl,bel⟩
 ·rw[show relX 13 k=decide (0<=k) from rfl]
  go_enter Tryz.func42,Tryz.ntmps42
  go_wp2_with(first
   | (go_at_call 65;refine(zBe a b _).mono ?_;rw[HK.out];rintro e w1 ⟨rfl,hb⟩;obtain⟨l,m,rfl⟩:=zA0 hb;clear hb)
   | (go_at_call 66;refine mB (zB2 _ _) ?_;intro l m))
  go_returns
  exact⟨rfl,bel⟩
theorem printS_le42 (x:Int) (h:Is64 x):(printS x).size<=42:=by
 have hn:=natAbs_lt h
 have h1:=numS_le (x.natAbs / 10000) (by omega)
 have h2:=fracS_le (x.natAbs % 10000) (Nat.mod_lt _ (by decide))
 have h3:(headS x).size<=21:=by
  unfold headS
  split
  ·rw[ByteArray.size_append,show ByteArray.size ⟨#[45]⟩=1 from rfl];omega
  ·omega
 unfold printS
 split
 ·decide
 ·split
  ·omega
  ·rw[ByteArray.size_append,ByteArray.size_append,show ByteArray.size ⟨#[46]⟩=1 from rfl];omega
theorem asTxt_le (v:V) (h:Is64 v.num):(zAR v).1.size<=v.str.size+42:=by
 have h1:=printS_le42 v.num h
 have c0:ByteArray.size ⟨#[]⟩=0:=rfl
 have c1:ByteArray.size ⟨#[84,82,85,69]⟩=4:=rfl
 have c2:ByteArray.size ⟨#[70,65,76,83,69]⟩=5:=rfl
 unfold zAR
 repeat' split
 all_goals(dsimp only[vG];first|omega|(rw[c0];omega)|(rw[c1];omega)|(rw[c2];omega))
def Fits (v:V):Prop:=Is64 v.num/\v.str.size<=140737488355328
theorem eval_two {h:Value} (p:Nat) (tp:Addr) (text op:Int) (h3:3<=op) (h13:op<=13) (a b:V) (ha:Fits a) (hb:Fits b) (w:World) (hp:AtB w p (zAc tp text h)) (ht:zBs w):Rt 24 #[.pointer (some ⟨p,0,none⟩),.int .i64 op,(vG a),(vG b)] w (vG (twoG text op a b)):=by
 by_cases c1:op<=6
 ·rw[show twoG text op a b=sumsG op a b from if_pos ⟨h3,c1⟩]
  have HA:=zh ha
  have HB:=zh hb
  have H3:=zh h3
  have H6:=zh c1
  have h:op=3∨op=4∨op=5∨op=6:=by omega
  clear ha hb h3 h13 c1 hp ht
  rcases h with rfl|rfl|rfl|rfl
  all_goals go_enter Tryz.func24,Tryz.ntmps24
  all_goals go_wp2_with(go_at_call 39;refine mB (eval_sums _ H3.out H6.out a b HA.out.1 HB.out.1 _) ?_;intro l m)
  all_goals go_returns
  all_goals exact⟨rfl,bel⟩
 ·by_cases c2:op=7
  ·subst c2
   have e:twoG text 7 a b=catG text a b:=rfl
   have la:=asTxt_le a ha.1
   have lb:=asTxt_le b hb.1
   have sa:=ha.2
   have sb:=hb.2
   have e2:catG text a b=if (zAR a).2≠0 then errG (zAR a).2 else if (zAR b).2≠0 then errG (zAR b).2 else if text<(zAR a).1.size+(zAR b).1.size then errG 7 else txtG ((zAR a).1++(zAR b).1):=rfl
   obtain⟨s,c,ea⟩:∃ s c,zAR a=(s,c):=⟨_,_,rfl⟩
   obtain⟨t,d,eb⟩:∃ t d,zAR b=(t,d):=⟨_,_,rfl⟩
   rw[ea,eb] at e2
   rw[ea] at la
   rw[eb] at lb
   dsimp only[vG] at e2 la lb
   have hs:(s.size:Int)+(t.size:Int)<=300000000000000:=by omega
   have hs0:(0:Int)<=(s.size:Int):=Int.natCast_nonneg _
   have hs1:(0:Int)<=(t.size:Int):=Int.natCast_nonneg _
   have p1:=hp 1 _ rfl
   have lp:=zA2 p1
   have lp1:p<w.heap.size+1:=by omega
   have lp2:p<w.heap.size+1+1:=by omega
   have lp3:p<w.heap.size+1+1+1:=by omega
   have EA:=zh ea
   have EB:=zh eb
   have HA:=zh ha
   have HB:=zh hb
   have HT:=zh ht
   rw[e,e2]
   clear e e2 ea eb la lb sa sb ha hb ht hp h3 h13 c1
   by_cases hc:c=0
   ·subst hc
    rw[if_neg (fun h=>h rfl)]
    by_cases hd:d=0
    ·subst hd
     rw[if_neg (fun h=>h rfl)]
     by_cases hl:text<(s.size:Int)+t.size
     ·rw[if_pos hl]
      go_enter Tryz.func24,Tryz.ntmps24
      go_wp2_with(first
       | (go_at_call_of 40 (Value.agg #[Value.int .i64 a.tag,Value.int .i64 a.num,Value.string a.str,Value.bool a.is,Value.int .i64 a.code]);refine(zB8 a HA.out.1 _ (HT.out.below bel (Nat.le_refl _))).mono ?_;rw[EA.out];rintro e w1 ⟨rfl,hb⟩;obtain⟨l,m,rfl⟩:=zA0 hb;clear hb)
       | (go_at_call_of 40 (Value.agg #[Value.int .i64 b.tag,Value.int .i64 b.num,Value.string b.str,Value.bool b.is,Value.int .i64 b.code]);refine(zB8 b HB.out.1 _ (HT.out.below bel (Nat.le_refl _))).mono ?_;rw[EB.out];rintro e w1 ⟨rfl,hb⟩;obtain⟨l,m,rfl⟩:=zA0 hb;clear hb)
       | (go_at_call 21;refine mB (zA3 _ _) ?_;intro l m))
      all_goals go_returns
      all_goals exact⟨rfl,bel⟩
     ·rw[if_neg hl]
      go_enter Tryz.func24,Tryz.ntmps24
      go_wp2_with(first
       | (go_at_call_of 40 (Value.agg #[Value.int .i64 a.tag,Value.int .i64 a.num,Value.string a.str,Value.bool a.is,Value.int .i64 a.code]);refine(zB8 a HA.out.1 _ (HT.out.below bel (Nat.le_refl _))).mono ?_;rw[EA.out];rintro e w1 ⟨rfl,hb⟩;obtain⟨l,m,rfl⟩:=zA0 hb;clear hb)
       | (go_at_call_of 40 (Value.agg #[Value.int .i64 b.tag,Value.int .i64 b.num,Value.string b.str,Value.bool b.is,Value.int .i64 b.code]);refine(zB8 b HB.out.1 _ (HT.out.below bel (Nat.le_refl _))).mono ?_;rw[EB.out];rintro e w1 ⟨rfl,hb⟩;obtain⟨l,m,rfl⟩:=zA0 hb;clear hb)
       | (go_at_call 41;refine mB (value_Txt _ _) ?_;intro l m))
      all_goals go_returns
      all_goals exact⟨rfl,bel⟩
    ·rw[if_pos hd]
     have kd:(d != 0)=true:=by simp[hd]
     clear hd
     go_enter Tryz.func24,Tryz.ntmps24
     go_wp2_with(first
      | (go_at_call_of 40 (Value.agg #[Value.int .i64 a.tag,Value.int .i64 a.num,Value.string a.str,Value.bool a.is,Value.int .i64 a.code]);refine(zB8 a HA.out.1 _ (HT.out.below bel (Nat.le_refl _))).mono ?_;rw[EA.out];rintro e w1 ⟨rfl,hb⟩;obtain⟨l,m,rfl⟩:=zA0 hb;clear hb)
      | (go_at_call_of 40 (Value.agg #[Value.int .i64 b.tag,Value.int .i64 b.num,Value.string b.str,Value.bool b.is,Value.int .i64 b.code]);refine(zB8 b HB.out.1 _ (HT.out.below bel (Nat.le_refl _))).mono ?_;rw[EB.out];rintro e w1 ⟨rfl,hb⟩;obtain⟨l,m,rfl⟩:=zA0 hb;clear hb)
      | (go_at_call 21;refine mB (zA3 _ _) ?_;intro l m))
     all_goals go_returns
     all_goals exact⟨rfl,bel⟩
   ·rw[if_pos hc]
    have kc:(c != 0)=true:=by simp[hc]
    clear hc
    go_enter Tryz.func24,Tryz.ntmps24
    go_wp2_with(first
     | (go_at_call_of 40 (Value.agg #[Value.int .i64 a.tag,Value.int .i64 a.num,Value.string a.str,Value.bool a.is,Value.int .i64 a.code]);refine(zB8 a HA.out.1 _ (HT.out.below bel (Nat.le_refl _))).mono ?_;rw[EA.out];rintro e w1 ⟨rfl,hb⟩;obtain⟨l,m,rfl⟩:=zA0 hb;clear hb)
     | (go_at_call 21;refine mB (zA3 _ _) ?_;intro l m))
    all_goals go_returns
    all_goals exact⟨rfl,bel⟩
  ·rw[show twoG text op a b=zBy op a b by unfold twoG;rw[if_neg (fun h=>c1 h.2),if_neg c2]]
   have H8:=zh (show 8<=op by omega)
   have H13:=zh h13
   have h:op=8∨op=9∨op=10∨op=11∨op=12∨op=13:=by omega
   clear ha hb hp ht h3 h13 c1 c2
   rcases h with rfl|rfl|rfl|rfl|rfl|rfl
   all_goals go_enter Tryz.func24,Tryz.ntmps24
   all_goals go_wp2_with(go_at_call 42;refine mB (eval_compared _ H8.out H13.out a b _) ?_;intro l m)
   all_goals go_returns
   all_goals exact⟨rfl,bel⟩
end Go.Proofs.YtppghgnhlgoagaaGreatDoor
