/- Parts. -/
import Derived.Test.YtppghgnhlgoagaaGreatDoorG14
set_option linter.all false
set_option maxRecDepth 100000
set_option maxHeartbeats 4000000
namespace Go.Proofs.YtppghgnhlgoagaaGreatDoor
open Go Go.RowKit
open Go.Lib renaming hid->zh
theorem words_of (p:Nat):p / 18446744073709551616*18446744073709551616+p % 18446744073709551616=p:=by
 have:=Nat.div_add_mod p 18446744073709551616
 omega
theorem signed_int (n:Nat) (x:Int) (hx:x=n) (h:n<18446744073709551616) (low:Bool) (w:World):Calls Tryz.prog 60 #[.int .u64 x,.bool low] w fun e w'=>e=.returned (.tuple #[.int .i64 (signX n low).1,.int .i64 (signX n low).2])/\w=w':=by
 subst hx
 exact zBO n h low w
theorem div_words (hi lo y q r:Nat) (h:hi<y) (hl:lo<18446744073709551616) (hy:y<18446744073709551616) (hq:(hi*18446744073709551616+lo) / y=q) (hr:(hi*18446744073709551616+lo) % y=r) (w:World):Rt 59 #[.int .u64 hi,.int .u64 lo,.int .u64 y] w (.tuple #[.int .u64 q,.int .u64 r]):=by
 have h1:=Div64 hi lo y h hl hy w
 rw[hq,hr] at h1
 exact h1
theorem div_scale (hi lo q r:Nat) (h:hi<10000) (hl:lo<18446744073709551616) (hq:(hi*18446744073709551616+lo) / 10000=q) (hr:(hi*18446744073709551616+lo) % 10000=r) (w:World):Rt 59 #[.int .u64 hi,.int .u64 lo,.int .u64 10000] w (.tuple #[.int .u64 q,.int .u64 r]):=by
 obtain⟨y,hy⟩:∃ y:Nat,y=10000:=⟨_,rfl⟩
 rw[<- hy] at h hq hr
 have h1:=div_words hi lo y q r h hl (by omega) hq hr w
 rw[show ((y:Nat):Int)=10000 by omega] at h1
 exact h1
theorem dec_Mul (a b:Int) (ha:Is64 a) (hb:Is64 b) (w:World):Rt 61 #[.int .i64 a,.int .i64 b] w (.tuple #[.int .i64 (mulX a b).1,.int .i64 (mulX a b).2]):=by
 by_cases h1:a=minI
 ·rw[show mulX a b=(0,2) from if_pos (.inl h1)]
  clear ha hb
  go_enter Tryz.func61,Tryz.ntmps61
  go_wp2_with(go_at_call 56;refine(zAM _ _).mono ?_;rintro e w1 ⟨rfl,rfl⟩)
  go_ret2
  exact⟨rfl,bel⟩
 by_cases h2:b=minI
 ·rw[show mulX a b=(0,2) from if_pos (.inr h2)]
  have m1:(a != minI)=true:=by simp[h1]
  clear ha hb
  go_enter Tryz.func61,Tryz.ntmps61
  go_wp2_with(go_at_call 56;refine(zAM _ _).mono ?_;rintro e w1 ⟨rfl,rfl⟩)
  go_ret2
  exact⟨rfl,bel⟩
 have na:=natAbs_lt ha
 have nb:=natAbs_lt hb
 have e:mulX a b=if 10000<=a.natAbs*b.natAbs / 18446744073709551616 then (0,2) else signX (upX (a.natAbs*b.natAbs / 10000) (decide (5000<=a.natAbs*b.natAbs % 10000))) (lowX a != lowX b):=if_neg (fun h=>h.elim h1 h2)
 have m1:(a != minI)=true:=by simp[h1]
 have m2:(b != minI)=true:=by simp[h2]
 obtain⟨m,hm⟩:∃ m,a.natAbs=m:=⟨_,rfl⟩
 obtain⟨n,hn⟩:∃ n,b.natAbs=n:=⟨_,rfl⟩
 rw[hm] at na e
 rw[hn] at nb e
 have hp:=words_of (m*n)
 have hl:m*n % 18446744073709551616<18446744073709551616:=Nat.mod_lt _ (by decide)
 obtain⟨hi,hhi⟩:∃ hi,m*n / 18446744073709551616=hi:=⟨_,rfl⟩
 obtain⟨lo,hlo⟩:∃ lo,m*n % 18446744073709551616=lo:=⟨_,rfl⟩
 rw[hhi,hlo] at hp
 rw[hhi] at e
 rw[hlo] at hl
 rw[<- hp] at e
 obtain⟨lw,hlw⟩:∃ lw,(lowX a != lowX b)=lw:=⟨_,rfl⟩
 rw[hlw] at e
 have HM:=zh hm
 have HN:=zh hn
 have HHI:=zh hhi
 have HLO:=zh hlo
 have HA:=zh ha
 have HB:=zh hb
 have NA:=zh (show m<18446744073709551616 by omega)
 have NB:=zh (show n<18446744073709551616 by omega)
 have HL:=zh hl
 clear hm hn hhi hlo ha hb na nb hl hp
 by_cases c1:10000<=hi
 ·rw[if_pos c1] at e
  rw[e]
  have c1i:(10000:Int)<=hi:=by omega
  clear c1 e h1 h2
  go_enter Tryz.func61,Tryz.ntmps61
  go_wp2_with(first
   | (go_at_call 56;refine(zAM _ _).mono ?_;rintro e w1 ⟨rfl,rfl⟩)
   | (go_at_call_of 57 (Value.int .i64 a);refine(zAj a HA.out _).mono ?_;rw[HM.out];rintro e w1 ⟨rfl,rfl⟩)
   | (go_at_call_of 57 (Value.int .i64 b);refine(zAj b HB.out _).mono ?_;rw[HN.out];rintro e w1 ⟨rfl,rfl⟩)
   | (go_at_call 58;refine(Tryz.bits_Mul64 m n NA.out NB.out _).mono ?_;rw[HHI.out,HLO.out];rintro e w1 ⟨rfl,rfl⟩))
  go_ret2
  exact⟨rfl,bel⟩
 ·rw[if_neg c1] at e
  have hq1:(hi*18446744073709551616+lo) / 10000<18446744073709551616:=by have:=HL.out;omega
  obtain⟨q,hq⟩:∃ q,(hi*18446744073709551616+lo) / 10000=q:=⟨_,rfl⟩
  obtain⟨r,hr⟩:∃ r,(hi*18446744073709551616+lo) % 10000=r:=⟨_,rfl⟩
  rw[hq,hr] at e
  rw[hq] at hq1
  rw[e]
  have HQ:=zh hq
  have HR:=zh hr
  have C1:=zh (show hi<10000 by omega)
  have Q1:=zh hq1
  have c1i: ¬ (10000:Int)<=hi:=by omega
  clear c1 e hq hr hq1 h1 h2
  by_cases c2:5000<=r
  ·have c2i:(5000:Int)<=r:=by omega
   by_cases c3:q<=9223372036854775807
   ·have c3i:(q:Int)<=9223372036854775807:=by omega
    rw[show upX q (decide (5000<=r))=q+1 by simp[upX,c2,c3]]
    obtain⟨q2,hq2⟩:∃ q2,q+1=q2:=⟨_,rfl⟩
    have w2:IntKind.u64.wrap ((q:Int)+1)=(q2:Int):=by rw[IntKind.wrap_u64];omega
    have Q2:=zh (show q2<18446744073709551616 by omega)
    rw[hq2]
    clear c2 c3 hq2
    go_enter Tryz.func61,Tryz.ntmps61
    go_wp2_with(first
     | (go_at_call 56;refine(zAM _ _).mono ?_;rintro e w1 ⟨rfl,rfl⟩)
     | (go_at_call_of 57 (Value.int .i64 a);refine(zAj a HA.out _).mono ?_;rw[HM.out];rintro e w1 ⟨rfl,rfl⟩)
     | (go_at_call_of 57 (Value.int .i64 b);refine(zAj b HB.out _).mono ?_;rw[HN.out];rintro e w1 ⟨rfl,rfl⟩)
     | (go_at_call 58;refine(Tryz.bits_Mul64 m n NA.out NB.out _).mono ?_;rw[HHI.out,HLO.out];rintro e w1 ⟨rfl,rfl⟩)
     | (go_at_call 59;refine mB (div_scale hi lo q r C1.out HL.out HQ.out HR.out _) ?_;intro l1 l2)
     | (go_at_call 60;rw[show (!lowX a==lowX b)=lw from hlw];refine(zBO q2 Q2.out lw _).mono ?_;rintro e w1 ⟨rfl,rfl⟩))
    go_ret2
    exact⟨rfl,bel⟩
   ·have c3i: ¬ (q:Int)<=9223372036854775807:=by omega
    rw[show upX q (decide (5000<=r))=q by simp[upX,c2,c3]]
    clear c2 c3
    go_enter Tryz.func61,Tryz.ntmps61
    go_wp2_with(first
     | (go_at_call 56;refine(zAM _ _).mono ?_;rintro e w1 ⟨rfl,rfl⟩)
     | (go_at_call_of 57 (Value.int .i64 a);refine(zAj a HA.out _).mono ?_;rw[HM.out];rintro e w1 ⟨rfl,rfl⟩)
     | (go_at_call_of 57 (Value.int .i64 b);refine(zAj b HB.out _).mono ?_;rw[HN.out];rintro e w1 ⟨rfl,rfl⟩)
     | (go_at_call 58;refine(Tryz.bits_Mul64 m n NA.out NB.out _).mono ?_;rw[HHI.out,HLO.out];rintro e w1 ⟨rfl,rfl⟩)
     | (go_at_call 59;refine mB (div_scale hi lo q r C1.out HL.out HQ.out HR.out _) ?_;intro l1 l2)
     | (go_at_call 60;rw[show (!lowX a==lowX b)=lw from hlw];refine(zBO q Q1.out lw _).mono ?_;rintro e w1 ⟨rfl,rfl⟩))
    go_ret2
    exact⟨rfl,bel⟩
  ·have c2i: ¬ (5000:Int)<=r:=by omega
   rw[show upX q (decide (5000<=r))=q by simp[upX,c2]]
   clear c2
   go_enter Tryz.func61,Tryz.ntmps61
   go_wp2_with(first
    | (go_at_call 56;refine(zAM _ _).mono ?_;rintro e w1 ⟨rfl,rfl⟩)
    | (go_at_call_of 57 (Value.int .i64 a);refine(zAj a HA.out _).mono ?_;rw[HM.out];rintro e w1 ⟨rfl,rfl⟩)
    | (go_at_call_of 57 (Value.int .i64 b);refine(zAj b HB.out _).mono ?_;rw[HN.out];rintro e w1 ⟨rfl,rfl⟩)
    | (go_at_call 58;refine(Tryz.bits_Mul64 m n NA.out NB.out _).mono ?_;rw[HHI.out,HLO.out];rintro e w1 ⟨rfl,rfl⟩)
    | (go_at_call 59;refine mB (div_scale hi lo q r C1.out HL.out HQ.out HR.out _) ?_;intro l1 l2)
    | (go_at_call 60;rw[show (!lowX a==lowX b)=lw from hlw];refine(zBO q Q1.out lw _).mono ?_;rintro e w1 ⟨rfl,rfl⟩))
   go_ret2
   exact⟨rfl,bel⟩
theorem mul_scale (m hi lo:Nat) (hm:m<18446744073709551616) (hhi:m*10000 / 18446744073709551616=hi) (hlo:m*10000 % 18446744073709551616=lo) (w:World):Calls Tryz.prog 58 #[.int .u64 m,.int .u64 10000] w fun e w'=>e=.returned (.tuple #[.int .u64 hi,.int .u64 lo])/\w'=w:=by
 obtain⟨y,hy⟩:∃ y:Nat,y=10000:=⟨_,rfl⟩
 rw[<- hy] at hhi hlo
 have h1:=Tryz.bits_Mul64 m y hm (by omega) w
 rw[hhi,hlo,show ((y:Nat):Int)=10000 by omega] at h1
 exact h1
theorem dec_Div (a b:Int) (ha:Is64 a) (hb:Is64 b) (w:World):Rt 38 #[.int .i64 a,.int .i64 b] w (.tuple #[.int .i64 (divX a b).1,.int .i64 (divX a b).2]):=by
 by_cases h1:a=minI
 ·rw[show divX a b=(0,2) from if_pos (.inl h1)]
  clear ha hb
  go_enter Tryz.func38,Tryz.ntmps38
  go_wp2_with(go_at_call 56;refine(zAM _ _).mono ?_;rintro e w1 ⟨rfl,rfl⟩)
  go_ret2
  exact⟨rfl,bel⟩
 by_cases h2:b=minI
 ·rw[show divX a b=(0,2) from if_pos (.inr h2)]
  have m1:(a != minI)=true:=by simp[h1]
  clear ha hb
  go_enter Tryz.func38,Tryz.ntmps38
  go_wp2_with(go_at_call 56;refine(zAM _ _).mono ?_;rintro e w1 ⟨rfl,rfl⟩)
  go_ret2
  exact⟨rfl,bel⟩
 have m1:(a != minI)=true:=by simp[h1]
 have m2:(b != minI)=true:=by simp[h2]
 by_cases h3:b=0
 ·have e:divX a b=(0,3):=by
   unfold divX
   rw[if_neg (fun h=>h.elim h1 h2),if_pos h3]
  rw[e]
  have m3:(b==0)=true:=by simp[h3]
  clear ha hb e h1 h2
  go_enter Tryz.func38,Tryz.ntmps38
  go_wp2_with(go_at_call 56;refine(zAM _ _).mono ?_;rintro e w1 ⟨rfl,rfl⟩)
  go_ret2
  exact⟨rfl,bel⟩
 have na:=natAbs_lt ha
 have nb:=natAbs_lt hb
 have nz:0<b.natAbs:=by omega
 have e:divX a b=if b.natAbs<=a.natAbs*10000 / 18446744073709551616 then (0,2) else signX (upX (a.natAbs*10000 / b.natAbs) (decide (b.natAbs-a.natAbs*10000 % b.natAbs<=a.natAbs*10000 % b.natAbs))) (lowX a != lowX b):=by
  unfold divX
  rw[if_neg (fun h=>h.elim h1 h2),if_neg h3]
 have m3:(b==0)=false:=by simp[h3]
 obtain⟨m,hm⟩:∃ m,a.natAbs=m:=⟨_,rfl⟩
 obtain⟨n,hn⟩:∃ n,b.natAbs=n:=⟨_,rfl⟩
 rw[hm] at na e
 rw[hn] at nb e nz
 have hp:=words_of (m*10000)
 have hl:m*10000 % 18446744073709551616<18446744073709551616:=Nat.mod_lt _ (by decide)
 obtain⟨hi,hhi⟩:∃ hi,m*10000 / 18446744073709551616=hi:=⟨_,rfl⟩
 obtain⟨lo,hlo⟩:∃ lo,m*10000 % 18446744073709551616=lo:=⟨_,rfl⟩
 rw[hhi,hlo] at hp
 rw[hhi] at e
 rw[hlo] at hl
 rw[<- hp] at e
 obtain⟨lw,hlw⟩:∃ lw,(lowX a != lowX b)=lw:=⟨_,rfl⟩
 rw[hlw] at e
 have HM:=zh hm
 have HN:=zh hn
 have HHI:=zh hhi
 have HLO:=zh hlo
 have HA:=zh ha
 have HB:=zh hb
 have NA:=zh (show m<18446744073709551616 by omega)
 have NB:=zh (show n<18446744073709551616 by omega)
 have HL:=zh hl
 have NZ:=zh nz
 have hq1:hi<n->(hi*18446744073709551616+lo) / n<18446744073709551616:=fun h=>by
  rw[Nat.div_lt_iff_lt_mul nz]
  have:(hi+1)*18446744073709551616<=n*18446744073709551616:=Nat.mul_le_mul_right _ h
  omega
 clear hm hn hhi hlo ha hb na nb hl hp nz
 by_cases c1:n<=hi
 ·rw[if_pos c1] at e
  rw[e]
  have c1i:(n:Int)<=hi:=by omega
  clear c1 e h1 h2 h3 hq1
  go_enter Tryz.func38,Tryz.ntmps38
  go_wp2_with(first
   | (go_at_call 56;refine(zAM _ _).mono ?_;rintro e w1 ⟨rfl,rfl⟩)
   | (go_at_call_of 57 (Value.int .i64 a);refine(zAj a HA.out _).mono ?_;rw[HM.out];rintro e w1 ⟨rfl,rfl⟩)
   | (go_at_call_of 57 (Value.int .i64 b);refine(zAj b HB.out _).mono ?_;rw[HN.out];rintro e w1 ⟨rfl,rfl⟩)
   | (go_at_call 58;refine(mul_scale m hi lo NA.out HHI.out HLO.out _).mono ?_;rintro e w1 ⟨rfl,rfl⟩))
  go_ret2
  exact⟨rfl,bel⟩
 ·rw[if_neg c1] at e
  have hq1:=hq1 (by omega)
  obtain⟨q,hq⟩:∃ q,(hi*18446744073709551616+lo) / n=q:=⟨_,rfl⟩
  obtain⟨r,hr⟩:∃ r,(hi*18446744073709551616+lo) % n=r:=⟨_,rfl⟩
  have hrn:r<n:=by rw[<- hr];exact Nat.mod_lt _ NZ.out
  rw[hq,hr] at e
  rw[hq] at hq1
  rw[e]
  obtain⟨d,hd⟩:∃ d,n-r=d:=⟨_,rfl⟩
  have wd:IntKind.u64.wrap ((n:Int)-(r:Int))=(d:Int):=by have:=NB.out;rw[IntKind.wrap_u64];omega
  rw[hd]
  have HQ:=zh hq
  have HR:=zh hr
  have C1:=zh (show hi<n by omega)
  have Q1:=zh hq1
  have c1i: ¬ (n:Int)<=hi:=by omega
  clear c1 e hq hr hq1 h1 h2 h3 hrn hd
  by_cases c2:d<=r
  ·have c2i:(d:Int)<=r:=by omega
   by_cases c3:q<=9223372036854775807
   ·have c3i:(q:Int)<=9223372036854775807:=by omega
    rw[show upX q (decide (d<=r))=q+1 by simp[upX,c2,c3]]
    obtain⟨q2,hq2⟩:∃ q2,q+1=q2:=⟨_,rfl⟩
    have w2:IntKind.u64.wrap ((q:Int)+1)=(q2:Int):=by rw[IntKind.wrap_u64];omega
    have Q2:=zh (show q2<18446744073709551616 by omega)
    rw[hq2]
    clear c2 c3 hq2
    go_enter Tryz.func38,Tryz.ntmps38
    go_wp2_with(first|(go_at_call 56;refine(zAM _ _).mono ?_;rintro e w1 ⟨rfl,rfl⟩)|(go_at_call_of 57 (Value.int .i64 a);refine(zAj a HA.out _).mono ?_;rw[HM.out];rintro e w1 ⟨rfl,rfl⟩)|(go_at_call_of 57 (Value.int .i64 b);refine(zAj b HB.out _).mono ?_;rw[HN.out];rintro e w1 ⟨rfl,rfl⟩)|(go_at_call 58;refine(mul_scale m hi lo NA.out HHI.out HLO.out _).mono ?_;rintro e w1 ⟨rfl,rfl⟩)|(go_at_call 59;refine mB (div_words hi lo n q r C1.out HL.out NB.out HQ.out HR.out _) ?_;intro l1 l2)|(go_at_call 60;rw[show (!lowX a==lowX b)=lw from hlw];refine(zBO q2 Q2.out lw _).mono ?_;rintro e w1 ⟨rfl,rfl⟩))
    go_ret2
    exact⟨rfl,bel⟩
   ·have c3i: ¬ (q:Int)<=9223372036854775807:=by omega
    rw[show upX q (decide (d<=r))=q by simp[upX,c2,c3]]
    clear c2 c3
    go_enter Tryz.func38,Tryz.ntmps38
    go_wp2_with(first|(go_at_call 56;refine(zAM _ _).mono ?_;rintro e w1 ⟨rfl,rfl⟩)|(go_at_call_of 57 (Value.int .i64 a);refine(zAj a HA.out _).mono ?_;rw[HM.out];rintro e w1 ⟨rfl,rfl⟩)|(go_at_call_of 57 (Value.int .i64 b);refine(zAj b HB.out _).mono ?_;rw[HN.out];rintro e w1 ⟨rfl,rfl⟩)|(go_at_call 58;refine(mul_scale m hi lo NA.out HHI.out HLO.out _).mono ?_;rintro e w1 ⟨rfl,rfl⟩)|(go_at_call 59;refine mB (div_words hi lo n q r C1.out HL.out NB.out HQ.out HR.out _) ?_;intro l1 l2)|(go_at_call 60;rw[show (!lowX a==lowX b)=lw from hlw];refine(zBO q Q1.out lw _).mono ?_;rintro e w1 ⟨rfl,rfl⟩))
    go_ret2
    exact⟨rfl,bel⟩
  ·have c2i: ¬ (d:Int)<=r:=by omega
   rw[show upX q (decide (d<=r))=q by simp[upX,c2]]
   clear c2
   go_enter Tryz.func38,Tryz.ntmps38
   go_wp2_with(first|(go_at_call 56;refine(zAM _ _).mono ?_;rintro e w1 ⟨rfl,rfl⟩)|(go_at_call_of 57 (Value.int .i64 a);refine(zAj a HA.out _).mono ?_;rw[HM.out];rintro e w1 ⟨rfl,rfl⟩)|(go_at_call_of 57 (Value.int .i64 b);refine(zAj b HB.out _).mono ?_;rw[HN.out];rintro e w1 ⟨rfl,rfl⟩)|(go_at_call 58;refine(mul_scale m hi lo NA.out HHI.out HLO.out _).mono ?_;rintro e w1 ⟨rfl,rfl⟩)|(go_at_call 59;refine mB (div_words hi lo n q r C1.out HL.out NB.out HQ.out HR.out _) ?_;intro l1 l2)|(go_at_call 60;rw[show (!lowX a==lowX b)=lw from hlw];refine(zBO q Q1.out lw _).mono ?_;rintro e w1 ⟨rfl,rfl⟩))
   go_ret2
   exact⟨rfl,bel⟩
end Go.Proofs.YtppghgnhlgoagaaGreatDoor
