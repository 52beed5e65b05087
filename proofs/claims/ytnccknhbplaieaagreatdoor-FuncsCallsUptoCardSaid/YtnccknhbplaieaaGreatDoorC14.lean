/- Parts. -/
import Derived.Test.YtnccknhbplaieaaGreatDoorC08
import Derived.Test.YtnccknhbplaieaaGreatDoorC13
set_option linter.all false
set_option maxRecDepth 100000
set_option maxHeartbeats 4000000
namespace Go.Proofs.YtnccknhbplaieaaGreatDoor
open Go Go.RowKit Go.Proofs.Tryz
open Go.Lib renaming hid->zh
open _root_.Bool renaming and_eq_true->Q3
open Go.IntKind renaming wrap_u64->Q4,u64->Q5,wrap_i64->Q7
theorem zAL (x:Int) (w:World):Calls prog 95 #[.int .i64 x] w fun e w'=>e=.returned (.bool (decide (-9223372036854775807<=x)))/\w'=w:=by
 go_enter func95,ntmps95;go_wp2;go_ret;exact⟨rfl,rfl⟩
theorem zAw (x:Int) (h:Is64 x) (w:World):Rt 39 #[.int .i64 x] w (Value.agg #[Value.int .i64 (numG x).tag,Value.int .i64 (numG x).num,Value.string (numG x).str,Value.bool (numG x).is,Value.int .i64 (numG x).code]):=by
 unfold Is64 at h;unfold numG;by_cases hx:x=minI
 rw[if_pos hx];have hk: ¬ (-9223372036854775807:Int)<=x:=by unfold minI at hx;omega
 rotate_left
 rw[if_neg hx];have hk:(-9223372036854775807:Int)<=x:=by unfold minI at hx;omega
 all_goals
  go_enter func39,ntmps39;go_wp2_with(go_at_call 95;refine(zAL _ _).mono ?_;rintro e w1 ⟨rfl,rfl⟩)
  go_returns;exact rb_
theorem r2_Txt (s:ByteArray) (w:World):Rt 106 #[.string s] w (Value.agg #[Value.int .i64 (txtG s).tag,Value.int .i64 (txtG s).num,Value.string (txtG s).str,Value.bool (txtG s).is,Value.int .i64 (txtG s).code]):=by
 go_enter func106,ntmps106;go_wp2;go_returns;exact rb_
theorem r2_Truth (b:Bool) (w:World):Rt 50 #[.bool b] w (Value.agg #[Value.int .i64 (zAa b).tag,Value.int .i64 (zAa b).num,Value.string (zAa b).str,Value.bool (zAa b).is,Value.int .i64 (zAa b).code]):=by
 go_enter func50,ntmps50;go_wp2;go_returns;exact rb_
theorem zA6 (c:Int) (w:World):Rt 22 #[.int .i64 c] w (Value.agg #[Value.int .i64 (errG c).tag,Value.int .i64 (errG c).num,Value.string (errG c).str,Value.bool (errG c).is,Value.int .i64 (errG c).code]):=by
 have e:(errG c).code=if 1<=c/\c<=8 then c else 8:=by
  show errC c=_;unfold errC isCode;by_cases h1:1<=c<;>by_cases h8:c<=8<;>simp[h1,h8]
 have HE:=zh e;clear e;go_enter func22,ntmps22;go_wp2;all_goals go_returns;all_goals refine⟨?_,bel⟩;all_goals rw[HE.out];all_goals first|rw[if_pos (by omega)]|rw[if_neg (by omega)]
 all_goals rfl
theorem r2_Same (a b:V) (w:World):Rt 114 #[(Value.agg #[Value.int .i64 a.tag,Value.int .i64 a.num,Value.string a.str,Value.bool a.is,Value.int .i64 a.code]),(Value.agg #[Value.int .i64 b.tag,Value.int .i64 b.num,Value.string b.str,Value.bool b.is,Value.int .i64 b.code])] w (.bool (eqB a b)):=by
 obtain⟨t,n,s,i,c⟩:=a;obtain⟨t',n',s',i',c'⟩:=b;dsimp only;obtain⟨R,hR⟩:=lt_ (eqB ⟨t,n,s,i,c⟩ ⟨t',n',s',i',c'⟩);rw[hR];unfold eqB at hR;simp only[V.mk.injEq] at hR;by_cases h1:t=t'
 ·by_cases h2:n=n'
  ·by_cases h3:s=s'
   ·subst h1 h2 h3;by_cases h4:i=i'
    ·by_cases h5:c=c'
     ·subst h4 h5;obtain rfl:R=true:=by rw[<- hR];simp
      clear hR;cases i;all_goals go_enter func114,ntmps114;all_goals go_wp2;all_goals(go_returns;exact⟨by simp,bel⟩)
     ·subst h4;obtain rfl:R=false:=by rw[<- hR];simp[h5]
      clear hR;cases i;all_goals go_enter func114,ntmps114;all_goals go_wp2;all_goals(go_returns;exact⟨by simp[h5],bel⟩)
    ·obtain rfl:R=false:=by rw[<- hR];simp[h4]
     clear hR;go_enter func114,ntmps114;cases i<;>cases i'
     ·exact absurd rfl h4
     ·clear h4;go_wp2;go_returns;exact rb_
     ·clear h4;go_wp2;go_returns;exact rb_
     ·exact absurd rfl h4
   ·have ha: ¬ s.toList=s'.toList:=fun e=>h3 (bytes_inj (by rw[ByteArray.toList_eq,ByteArray.toList_eq] at e;exact e));subst h1 h2;obtain rfl:R=false:=by rw[<- hR];simp[h3]
    clear hR;go_enter func114,ntmps114;go_wp2;go_returns;exact⟨by simp[ha,h3],bel⟩
  ·subst h1;obtain rfl:R=false:=by rw[<- hR];simp[h2]
   clear hR;go_enter func114,ntmps114;go_wp2;go_returns;exact⟨by simp[h2],bel⟩
 ·obtain rfl:R=false:=by rw[<- hR];simp[h1]
  clear hR;go_enter func114,ntmps114;go_wp2;go_returns;exact⟨by simp[h1],bel⟩
theorem r2_fault (v:V) (hlo: -9223372036854775808<=v.num) (w:World):Rt 91 #[(Value.agg #[Value.int .i64 v.tag,Value.int .i64 v.num,Value.string v.str,Value.bool v.is,Value.int .i64 v.code])] w (.int .i64 (if mayG v then v.code else 8)):=by
 have HM:=zh (ref02_May v hlo);obtain⟨m,hm⟩:=lt_ (mayG v);rw[hm] at HM;rw[hm];clear hm;cases m;all_goals go_enter func91,ntmps91;all_goals go_wp2_with(go_at_call 122;refine mB (HM.out _) ?_;intro l1 n1)
 all_goals(go_returns;exact rb_)
theorem may_code {v:V} (h:mayG v=true) (h4:v.tag≠4):v.code=0:=by
 obtain⟨t,n,s,i,c⟩:=v;simp only[mayG,eqB,bareG,Q3,decide_eq_true_eq,V.mk.injEq] at h h4 ⊢;have:=h.1.2.2.2.2.2;rw[if_neg h4] at this;exact this
theorem may_fault {v:V} (h:mayG v=true) (h4:v.tag=4):v.code≠0:=by
 obtain⟨t,n,s,i,c⟩:=v;simp only[mayG,Q3] at h h4 ⊢;subst h4;have:=h.2;simp only[isCode,if_neg (show ¬ (4:Int)=1 by decide),if_pos,Q3,decide_eq_true_eq] at this;omega
theorem may_is {v:V} (h:mayG v=true) (h3:v.tag≠3):v.is=false:=by
 obtain⟨t,n,s,i,c⟩:=v;simp only[mayG,eqB,bareG,Q3,decide_eq_true_eq,V.mk.injEq] at h h3 ⊢;have:=h.1.2.2.2.2.1;rw[if_neg h3] at this;exact this
theorem may_num {v:V} (h:mayG v=true) (h1:v.tag≠1):v.num=0:=by
 obtain⟨t,n,s,i,c⟩:=v;simp only[mayG,eqB,bareG,Q3,decide_eq_true_eq,V.mk.injEq] at h h1 ⊢;have:=h.1.2.2.1;rw[if_neg h1] at this;exact this
theorem r2_AsNumber (v:V) (hlo: -9223372036854775808<=v.num) (w:World):Rt 37 #[(Value.agg #[Value.int .i64 v.tag,Value.int .i64 v.num,Value.string v.str,Value.bool v.is,Value.int .i64 v.code])] w (.tuple #[.int .i64 (zA5 v).1,.int .i64 (zA5 v).2]):=by
 have HF:=zh (r2_fault v hlo);unfold zA5;by_cases hm:mayG v=true
 rw[if_neg (by rw[hm];decide)];rw[hm,if_pos rfl] at HF;by_cases h4:v.tag=4
 rw[if_pos h4];have hc:=may_fault hm h4;rw[h4] at HF;clear hm
 rotate_left
 rw[if_neg h4];have hc:=may_code hm h4;rw[hc] at HF;by_cases h2:v.tag=2
 rw[if_pos h2];rw[h2] at HF;clear hm
 rotate_left
 rw[if_neg h2];by_cases h3:v.tag=3
 ·rw[if_pos h3];have hn:=may_num hm (by omega);obtain⟨is,ha⟩:=lt_ v.is;rw[h3,hn,ha] at HF;clear hm;rw[ha];cases is;all_goals go_enter func37,ntmps37;all_goals go_wp2_with(go_at_call 91;refine mB (HF.out _) ?_;intro l1 n1)
  all_goals(go_returns;exact⟨by first|rfl|(rw[hn];rfl),bel⟩)
 rw[if_neg h3];have ha:=may_is hm h3;rw[ha] at HF;clear hm
 rotate_left
 have hb:mayG v=false:=by simpa using hm
 rw[if_pos hb];rw[if_neg hm] at HF;clear hm hb;all_goals
  go_enter func37,ntmps37;go_wp2_with(go_at_call 91;refine mB (HF.out _) ?_;intro l1 n1)
  go_returns;exact rb_
theorem r2_AsBool (v:V) (hlo: -9223372036854775808<=v.num) (w:World):Rt 69 #[(Value.agg #[Value.int .i64 v.tag,Value.int .i64 v.num,Value.string v.str,Value.bool v.is,Value.int .i64 v.code])] w (.tuple #[.bool (zA7 v).1,.int .i64 (zA7 v).2]):=by
 have HF:=zh (r2_AsNumber v hlo);go_enter func69,ntmps69;go_wp2_with(go_at_call 37;refine mB (HF.out _) ?_;intro l1 n1)
 go_returns;exact rb_
theorem r1_size (x:Int) (h:Is64 x) (w:World):Calls prog 159 #[.int .i64 x] w fun e w'=>e=.returned (.tuple #[.int .u64 ((x.natAbs:Nat):Int),.bool (lowX x)])/\w'=w:=by
 unfold Is64 at h;go_enter func159,ntmps159;go_wp2
 ·have e:Q5.wrap (IntKind.i64.wrap (-x))=(x.natAbs:Int):=by
   rw[Q4,Q7];omega
  have e2:Q5.wrap (wrap64 (-x))=(x.natAbs:Int):=by rw[Q4];unfold wrap64;omega
  go_ret2
  exact⟨by rw[lowX,decide_eq_true (show x<0 by omega),<-e2];rfl,rfl⟩
 ·have e:(x.natAbs:Int)=x:=by omega
  rw[e]
  go_ret2
  exact⟨by rw[lowX,decide_eq_false (show ¬ x<0 by omega)];rfl,rfl⟩
theorem zBJ (n:Nat) (h:n<18446744073709551616) (low:Bool) (w:World):Calls prog 160 #[.int .u64 n,.bool low] w fun e w'=>e=.returned (.tuple #[.int .i64 (signX n low).1,.int .i64 (signX n low).2])/\w'=w:=by
 by_cases h1:9223372036854775807<n
 ·rw[show signX n low=(0,2) from if_pos h1];have h2:(9223372036854775807:Int)<n:=by omega
  go_enter func160,ntmps160;go_wp2
  go_ret2
  exact⟨rfl,rfl⟩
 ·rw[show signX n low=(if low then -(n:Int) else n,0) from if_neg h1];have h2: ¬ (9223372036854775807:Int)<n:=by omega
  have h3:(n:Int)<=9223372036854775807:=by omega
  cases low;all_goals go_enter func160,ntmps160;all_goals go_wp2;all_goals go_ret2;all_goals exact⟨rfl,rfl⟩
theorem sign_add {a b:Int} (ha:In63 a) (hb:In63 b) (h:lowX a=lowX b):signX (a.natAbs+b.natAbs) (lowX a)=addX a b:=by
 unfold In63 at ha hb;unfold addX minI;unfold signX lowX;unfold lowX at h;have hd:(a<0 ↔ b<0):=decide_eq_decide.1 h;by_cases hn:a<0
 ·rw[decide_eq_true hn];by_cases ho:9223372036854775807<a.natAbs+b.natAbs
  ·rw[if_pos ho,if_pos (by omega)]
  ·rw[if_neg ho,if_pos rfl,if_neg (by omega)]
   congr 1
   omega
 ·rw[decide_eq_false hn];by_cases ho:9223372036854775807<a.natAbs+b.natAbs
  ·rw[if_pos ho,if_pos (by omega)]
  ·rw[if_neg ho,if_neg (by decide),if_neg (by omega)]
   congr 1
   omega
theorem sign_sub {a b:Int} (ha:In63 a) (hb:In63 b) (h: ¬ lowX a=lowX b) (hl:b.natAbs<=a.natAbs):signX (a.natAbs-b.natAbs) (lowX a)=addX a b:=by
 unfold In63 at ha hb;unfold addX minI;unfold signX lowX;unfold lowX at h;have hd: ¬ (a<0 ↔ b<0):=fun e=>h (decide_eq_decide.2 e);by_cases hn:a<0
 ·rw[decide_eq_true hn,if_neg (by omega),if_pos rfl,if_neg (by omega)]
  congr 1
  omega
 ·rw[decide_eq_false hn,if_neg (by omega),if_neg (by decide),if_neg (by omega)]
  congr 1
  omega
theorem add_comm' (a b:Int):addX a b=addX b a:=by
 unfold addX;rw[Int.add_comm b a];by_cases h:a=minI∨b=minI∨a+b< -9223372036854775807∨9223372036854775807<a+b
 ·rw[if_pos h,if_pos (by omega)]
 ·rw[if_neg h,if_neg (by omega)]
theorem in63_of {a:Int} (h:Is64 a) (hn: ¬ a=minI):In63 a:=by unfold Is64 at h;unfold minI at hn;unfold In63;omega
theorem r1_Add (a b:Int) (ha:Is64 a) (hb:Is64 b) (w:World):Calls prog 255 #[.int .i64 a,.int .i64 b] w fun e w'=>e=.returned (.tuple #[.int .i64 (addX a b).1,.int .i64 (addX a b).2])/\w'=w:=by
 by_cases h1:a=minI
 ·rw[show addX a b=(0,2) from if_pos (.inl h1)];have k1:decide ((-9223372036854775807:Int)<=a)=false:=decide_eq_false (by unfold minI at h1;omega);clear h1;go_enter func255,ntmps255;go_wp2_with(go_at_call 95;refine(zAL _ _).mono ?_;rintro e w1 ⟨rfl,rfl⟩)
  go_returns;exact⟨rfl,rfl⟩
 have i1:=in63_of ha h1;have k1:decide ((-9223372036854775807:Int)<=a)=true:=decide_eq_true i1.1;by_cases h2:b=minI
 ·rw[show addX a b=(0,2) from if_pos (.inr (.inl h2))];have k2:decide ((-9223372036854775807:Int)<=b)=false:=decide_eq_false (by unfold minI at h2;omega);clear h1 h2;go_enter func255,ntmps255;go_wp2_with(go_at_call 95;refine(zAL _ _).mono ?_;rintro e w1 ⟨rfl,rfl⟩)
  go_returns;exact⟨rfl,rfl⟩
 have i2:=in63_of hb h2;have k2:decide ((-9223372036854775807:Int)<=b)=true:=decide_eq_true i2.1;have hA:=sign_add i1 i2;have hS:=sign_sub i1 i2;have hT:=sign_sub i2 i1;rw[add_comm' b a] at hT;obtain⟨R,hR⟩:=lt_ (addX a b);rw[hR] at hA hS hT;rw[hR];have m1:a.natAbs<=9223372036854775807:=by unfold In63 at i1;omega
 have m2:b.natAbs<=9223372036854775807:=by unfold In63 at i2;omega
 have hc:=zh (r1_size a ha);have hd:=zh (r1_size b hb);obtain⟨m,hm⟩:=lt_ a.natAbs;obtain⟨n,hn⟩:=lt_ b.natAbs;obtain⟨x,hx⟩:=lt_ (lowX a);obtain⟨y,hy⟩:=lt_ (lowX b);rw[hm] at m1;rw[hn] at m2;rw[hm,hn,hx,hy] at hA hS hT;rw[hm,hx] at hc;rw[hn,hy] at hd;have w1:Q5.wrap ((m:Int)+n)=((m+n:Nat):Int):=by rw[Q4];omega
 clear hR hm hn hx hy h1 h2 i1 i2;by_cases hxy:x=y
 ·have hf:=hA hxy;subst hxy;have HG:=zh (zBJ (m+n) (by omega) x);rw[hf] at HG;clear hA hf hS hT;cases x;all_goals go_enter func255,ntmps255;all_goals go_wp2_with(first|(go_at_call 95;refine(zAL _ _).mono ?_;rintro e w1 ⟨rfl,rfl⟩)|(go_at_call_of 159 (Value.int .i64 a);refine(hc.out _).mono ?_;rintro e w1 ⟨rfl,rfl⟩)|(go_at_call_of 159 (Value.int .i64 b);refine(hd.out _).mono ?_;rintro e w1 ⟨rfl,rfl⟩)|(go_at_call 160;refine(HG.out _).mono ?_;rintro e w1 ⟨rfl,rfl⟩))
  all_goals(go_returns;exact⟨rfl,rfl⟩)
 by_cases hmn:n<=m
 have hg:=hS hxy hmn;have HG:=zh (zBJ (m-n) (by omega) x);rw[hg] at HG;have he:(n:Int)<=(m:Int):=by omega
 have w2:Q5.wrap ((m:Int)-n)=((m-n:Nat):Int):=by rw[Q4];omega
 clear hA hg hS hT
 rotate_left
 have hh:=hT (fun e=>hxy e.symm) (by omega);have HG:=zh (zBJ (n-m) (by omega) y);rw[hh] at HG;have he: ¬ (n:Int)<=(m:Int):=by omega
 have w2:Q5.wrap ((n:Int)-m)=((n-m:Nat):Int):=by rw[Q4];omega
 clear hA hh hS hT;all_goals
  cases x<;>cases y
  ·exact absurd rfl hxy
  ·clear hxy;go_enter func255,ntmps255;go_wp2_with(first|(go_at_call 95;refine(zAL _ _).mono ?_;rintro e w1 ⟨rfl,rfl⟩)|(go_at_call_of 159 (Value.int .i64 a);refine(hc.out _).mono ?_;rintro e w1 ⟨rfl,rfl⟩)|(go_at_call_of 159 (Value.int .i64 b);refine(hd.out _).mono ?_;rintro e w1 ⟨rfl,rfl⟩)|(go_at_call 160;refine(HG.out _).mono ?_;rintro e w1 ⟨rfl,rfl⟩))
   go_returns;exact⟨rfl,rfl⟩
  ·clear hxy;go_enter func255,ntmps255;go_wp2_with(first|(go_at_call 95;refine(zAL _ _).mono ?_;rintro e w1 ⟨rfl,rfl⟩)|(go_at_call_of 159 (Value.int .i64 a);refine(hc.out _).mono ?_;rintro e w1 ⟨rfl,rfl⟩)|(go_at_call_of 159 (Value.int .i64 b);refine(hd.out _).mono ?_;rintro e w1 ⟨rfl,rfl⟩)|(go_at_call 160;refine(HG.out _).mono ?_;rintro e w1 ⟨rfl,rfl⟩))
   go_returns;exact⟨rfl,rfl⟩
  ·exact absurd rfl hxy
theorem r1_Sub (a b:Int) (ha:Is64 a) (hb:Is64 b) (w:World):Calls prog 155 #[.int .i64 a,.int .i64 b] w fun e w'=>e=.returned (.tuple #[.int .i64 (subX a b).1,.int .i64 (subX a b).2])/\w'=w:=by
 unfold subX;by_cases h2:b=minI
 rw[if_pos h2];have k2:decide ((-9223372036854775807:Int)<=b)=false:=decide_eq_false (by unfold minI at h2;omega);clear h2
 rotate_left
 rw[if_neg h2];have i2:=in63_of hb h2;have k2:decide ((-9223372036854775807:Int)<=b)=true:=decide_eq_true i2.1;have w1:IntKind.i64.wrap (-b)= -b:=by rw[Q7];unfold In63 at i2;omega
 have w2:wrap64 (-b)= -b:=by unfold wrap64;unfold In63 at i2;omega
 have HA:=zh (r1_Add a (-b) ha (by unfold Is64;unfold In63 at i2;omega));by_cases h1:a=minI
 have k1:decide ((-9223372036854775807:Int)<=a)=false:=decide_eq_false (by unfold minI at h1;omega);rw[show addX a (-b)=(0,2) from if_pos (.inl h1)];clear h1 h2 i2
 rotate_left
 have i1:=in63_of ha h1;have k1:decide ((-9223372036854775807:Int)<=a)=true:=decide_eq_true i1.1;clear h1 h2 i1 i2;all_goals
  go_enter func155,ntmps155;go_wp2_with(first|(go_at_call 95;refine(zAL _ _).mono ?_;rintro e w1 ⟨rfl,rfl⟩)|(go_at_call 255;refine(HA.out _).mono ?_;rintro e w1 ⟨rfl,rfl⟩))
  all_goals(go_returns;exact⟨rfl,rfl⟩)
end Go.Proofs.YtnccknhbplaieaaGreatDoor
