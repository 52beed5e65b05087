/- Parts. -/
import Derived.Test.YtnccknhbplaieaaGreatDoorC07
import Derived.Lib.Bytealg
import Derived.Lib.TrimByte
import Derived.Lib.ItoaNum
import Derived.DeepKeys4
import Derived.Maps.Keyed
import Derived.MapViews
set_option linter.all false
set_option maxRecDepth 100000
set_option maxHeartbeats 4000000
namespace Go.Proofs.YtnccknhbplaieaaGreatDoor
open Go Go.RowKit Go.Proofs.Tryz
def Is64 (a:Int):Prop:= -9223372036854775808<=a/\a<=9223372036854775807
def addX (a b:Int):Int×Int:=if a=minI∨b=minI∨a+b< -9223372036854775807∨9223372036854775807<a+b then (0,2) else (a+b,0)
def subX (a b:Int):Int×Int:=if b=minI then (0,2) else addX a (-b)
def signX (n:Nat) (low:Bool):Int×Int:=if 9223372036854775807<n then (0,2) else (if low then -(n:Int) else n,0)
def lowX (a:Int):Bool:=decide (a<0)
def upX (q:Nat) (up:Bool):Nat:=if up&&decide (q<=9223372036854775807) then q+1 else q
def mulX (a b:Int):Int×Int:=if a=minI∨b=minI then (0,2) else
 if 10000<=a.natAbs*b.natAbs / 18446744073709551616 then (0,2) else
 signX (upX (a.natAbs*b.natAbs / 10000) (decide (5000<=a.natAbs*b.natAbs % 10000))) (lowX a != lowX b)
def numC (p:Int×Int):V:=if p.2≠0 then errG p.2 else numG p.1
theorem natAbs_lt {a:Int} (h:Is64 a):a.natAbs<=9223372036854775808:=by unfold Is64 at h;omega
theorem add_no {a b:Int} (ha:Is64 a) (hb:Is64 b) (h:a=minI∨b=minI∨wrap64 (a+b)=minI∨(¬ decide (a<wrap64 (a+b))=decide (0<b))/\(b != 0)=true):addX a b=(0,2):=by
 unfold Is64 at ha hb;unfold addX;refine if_pos ?_;rcases h with h|h|h|⟨h,h0⟩
 ·exact .inl h
 ·exact .inr (.inl h)
 ·unfold minI wrap64 at *;omega
 ·rw[decide_eq_decide] at h;have h0:b≠0:=by simpa using h0
  unfold minI wrap64 at *;omega
theorem add_yes {a b:Int} (ha:Is64 a) (hb:Is64 b) (h1: ¬ a=minI) (h2: ¬ b=minI) (h3: ¬ wrap64 (a+b)=minI) (h:decide (a<wrap64 (a+b))=decide (0<b)∨(b != 0)=false):addX a b=(wrap64 (a+b),0):=by
 unfold Is64 at ha hb;have e:wrap64 (a+b)=a+b/\ -9223372036854775807<=a+b/\a+b<=9223372036854775807:=by
  rcases h with h|h
  ·rw[decide_eq_decide] at h;unfold minI wrap64 at *;omega
  ·have h0:b=0:=by simpa using h
   unfold minI wrap64 at *;omega
 obtain⟨e1,e2,e3⟩:=e;rw[e1];unfold addX;refine if_neg ?_;rintro(h|h|h|h)
 ·exact h1 h
 ·exact h2 h
 ·omega
 ·omega
theorem dec_Add (a b:Int) (ha:Is64 a) (hb:Is64 b) (w:World):Calls prog 320 #[.int .i64 a,.int .i64 b] w fun e w'=>e=.returned (.tuple #[.int .i64 (addX a b).1,.int .i64 (addX a b).2])/\w=w':=by
 go_enter func320,ntmps320;go_wp2_with(go_at_call 86;refine(zAX _ _).mono ?_;rintro e w1 ⟨rfl,rfl⟩)
 ·rw[add_no ha hb (.inl ‹_›)];go_ret2;exact⟨rfl,rfl⟩
 ·rw[add_no ha hb (.inr (.inl ‹_›))];go_ret2;exact⟨rfl,rfl⟩
 ·rw[add_no ha hb (.inr (.inr (.inl ‹_›)))];go_ret2;exact⟨rfl,rfl⟩
 ·rw[add_no ha hb (.inr (.inr (.inr ⟨‹¬ decide _=decide _›,‹_›⟩)))];go_ret2;exact⟨rfl,rfl⟩
 ·rw[add_yes ha hb ‹¬ a=minI› ‹¬ b=minI› ‹¬ wrap64 _=minI› (.inr ‹_›)];go_ret2;exact⟨rfl,rfl⟩
 ·rw[add_yes ha hb ‹¬ a=minI› ‹¬ b=minI› ‹¬ wrap64 _=minI› (.inl ‹_›)];go_ret2;exact⟨rfl,rfl⟩
theorem dec_Sub (a b:Int) (ha:Is64 a) (hb:Is64 b) (w:World):Calls prog 268 #[.int .i64 a,.int .i64 b] w fun e w'=>e=.returned (.tuple #[.int .i64 (subX a b).1,.int .i64 (subX a b).2])/\w=w':=by
 unfold Is64 at hb;by_cases h:b=minI
 rw[show subX a b=(0,2) from if_pos h]
 rotate_left
 rw[show subX a b=addX a (-b) from if_neg h];have hc:Is64 (-b):=by unfold Is64;unfold minI at h;omega
 have m2:(b != minI)=true:=by simp[h]
 have hb1: -9223372036854775808<= -b:=hc.1;have hb2: -b<=9223372036854775807:=hc.2;all_goals
  go_enter func268,ntmps268;go_wp2_with(first|(go_at_call 86;refine(zAX _ _).mono ?_;rintro e w1 ⟨rfl,rfl⟩)|(go_at_call 320;refine(dec_Add a (-b) ha hc _).mono ?_;rintro e w1 ⟨rfl,rfl⟩))
  go_ret2
  exact⟨rfl,rfl⟩
theorem zBP (x:Int) (h:Is64 x) (w:World):Calls prog 270 #[.int .i64 x] w fun e w'=>e=.returned (.tuple #[.int .u64 ((x.natAbs:Nat):Int),.bool (lowX x)])/\w=w':=by
 unfold Is64 at h;go_enter func270,ntmps270;go_wp2
 ·have e:IntKind.u64.wrap (-IntKind.u64.wrap x)=(x.natAbs:Int):=by
   rw[IntKind.wrap_u64,IntKind.wrap_u64];omega
  rw[e]
  go_ret2
  exact⟨by rw[lowX,decide_eq_true (show x<0 by omega)];rfl,rfl⟩
 ·have e:(x.natAbs:Int)=x:=by omega
  rw[e]
  go_ret2
  exact⟨by rw[lowX,decide_eq_false (show ¬ x<0 by omega)];rfl,rfl⟩
theorem dec_signed (n:Nat) (h:n<18446744073709551616) (low:Bool) (w:World):Calls prog 272 #[.int .u64 n,.bool low] w fun e w'=>e=.returned (.tuple #[.int .i64 (signX n low).1,.int .i64 (signX n low).2])/\w=w':=by
 by_cases h1:9223372036854775807<n
 ·rw[show signX n low=(0,2) from if_pos h1];have h2:(9223372036854775807:Int)<n:=by omega
  go_enter func272,ntmps272;go_wp2
  go_ret2
  exact⟨rfl,rfl⟩
 ·rw[show signX n low=(if low then -(n:Int) else n,0) from if_neg h1];have h2: ¬ (9223372036854775807:Int)<n:=by omega
  have h3:(n:Int)<=9223372036854775807:=by omega
  cases low;all_goals go_enter func272,ntmps272;all_goals go_wp2;all_goals go_ret2;all_goals exact⟨rfl,rfl⟩
theorem xor_low (a b:Int) (ha:Is64 a) (hb:Is64 b):(bits BinOp.xor IntKind.i64 a b<0)=(decide (a<0)≠decide (b<0)):=by
 unfold Is64 at ha hb;have key:∀ x:Int,Is64 x->(BitVec.ofInt 64 x).msb=decide (x<0):=by
  intro x hx;unfold Is64 at hx;rw[BitVec.msb_eq_toInt,BitVec.toInt_ofInt]
  congr 1
  rw[Int.bmod_eq_of_le (by omega) (by omega)]
 have h1:bits BinOp.xor IntKind.i64 a b=(BitVec.ofInt 64 a ^^^ BitVec.ofInt 64 b).toInt:=by
  show IntKind.i64.wrap ((BitVec.ofInt 64 a ^^^ BitVec.ofInt 64 b).toNat:Int)=_;rw[IntKind.wrap_i64,BitVec.toInt_eq_toNat_cond];have:=(BitVec.ofInt 64 a ^^^ BitVec.ofInt 64 b).isLt;split<;>omega
 have h2:(bits BinOp.xor IntKind.i64 a b<0)=((BitVec.ofInt 64 a ^^^ BitVec.ofInt 64 b).msb=true):=by
  rw[h1,BitVec.msb_eq_toInt];simp
 rw[h2,BitVec.msb_xor,key a ha,key b hb];simp
def modX (a b:Int):Int×Int:=if a=minI∨b=minI then (0,2) else if b=0 then (0,3) else (if a.tmod b≠0/\decide (a.tmod b<0)≠decide (b<0) then a.tmod b+b else a.tmod b,0)
theorem dec_Mod (a b:Int) (ha:Is64 a) (hb:Is64 b) (w:World):Calls prog 196 #[.int .i64 a,.int .i64 b] w fun e w'=>e=.returned (.tuple #[.int .i64 (modX a b).1,.int .i64 (modX a b).2])/\w=w':=by
 unfold Is64 at ha hb;by_cases h1:a=minI
 have e:modX a b=(0,2):=if_pos (.inl h1);have k1:(a != minI)=false:=by simp[h1]
 rw[e];clear e h1
 rotate_left
 by_cases h2:b=minI
 have e:modX a b=(0,2):=if_pos (.inr h2);have k1:(a != minI)=true:=by simp[h1]
 have k2:(b != minI)=false:=by simp[h2]
 rw[e];clear e h1 h2
 rotate_left
 have k1:(a != minI)=true:=by simp[h1]
 have k2:(b != minI)=true:=by simp[h2]
 by_cases h3:b=0
 have e:modX a b=(0,3):=by unfold modX;rw[if_neg (by simp[h1,h2]),if_pos h3]
 rw[e];clear e h1 h2
 rotate_left
 ·have e:modX a b=(if a.tmod b≠0/\decide (a.tmod b<0)≠decide (b<0) then a.tmod b+b else a.tmod b,0):=by unfold modX;rw[if_neg (by simp[h1,h2]),if_neg h3]
  rw[e];clear e h1 h2;have h3':(b==0)=false:=by simp[h3]
  have hc:Is64 b:=hb;have ht:Is64 (a.tmod b):=by
   have h1:=Int.natAbs_tmod a b;have h4:=Nat.mod_lt a.natAbs (show 0<b.natAbs by omega);unfold Is64;omega
  have hd: -9223372036854775808<=a.tmod b/\a.tmod b<=9223372036854775807:=ht;obtain⟨t1,t2⟩:=hd;have x1:=xor_low _ _ ht hc;have x2:(0<=bits BinOp.xor IntKind.i64 (a.tmod b) b)=(decide (a.tmod b<0)=decide (b<0)):=by rw[<- Int.not_lt,x1];simp
  go_enter func196,ntmps196;go_wp2_with(go_at_call 86;refine(zAX _ _).mono ?_;rintro e w1 ⟨rfl,rfl⟩)
  all_goals go_returns;all_goals try rw[x1] at *;all_goals try rw[x2] at *;all_goals simp_all[wrap64];all_goals omega
 all_goals
  go_enter func196,ntmps196;go_wp2_with(go_at_call 86;refine(zAX _ _).mono ?_;rintro e w1 ⟨rfl,rfl⟩)
  go_returns;exact⟨rfl,rfl⟩
theorem zBm (x c:Int) (w:World):Rt 187 #[.int .i64 x,.int .i64 c] w (vG (numC (x,c))):=by
 by_cases h:c=0
 ·have e:numC (x,c)=numG x:=by simp[numC,h]
  rw[e];clear e;go_enter func187,ntmps187;go_wp2_with(go_at_call 140;refine mB (zB2 _ _) ?_;intro l n)
  go_returns;exact rb_
 ·have e:numC (x,c)=errG c:=by simp[numC,h]
  rw[e];clear e;go_enter func187,ntmps187;go_wp2_with(go_at_call 13;refine mB (zA3 _ _) ?_;intro l n)
  go_returns;exact rb_
open Go.Lib renaming hid->zh
def In63 (x:Int):Prop:= -9223372036854775807<=x/\x<=9223372036854775807
theorem In63.to64 {x:Int} (h:In63 x):Is64 x:=⟨by have:=h.1;omega,h.2⟩
theorem addX_64 (a b:Int):Is64 (addX a b).1:=by
 unfold addX Is64;split<;>simp<;>omega
theorem subX_64 (a b:Int):Is64 (subX a b).1:=by
 unfold subX;split
 ·exact⟨by simp,by simp⟩
 ·exact addX_64 _ _
theorem modX_64 (a b:Int) (ha:Is64 a) (hb:Is64 b):Is64 (modX a b).1:=by
 unfold modX;split
 ·exact⟨by simp,by simp⟩
 ·split
  ·exact⟨by simp,by simp⟩
  ·rename_i h3;have h1:=Int.natAbs_tmod a b;have h4:=Nat.mod_lt a.natAbs (show 0<b.natAbs by omega);unfold Is64 at *;dsimp only[vG];split
   ·rename_i h;have h5:decide (a.tmod b<0)≠decide (b<0):=h.2;simp at h5;omega
   ·omega
def floorX (x:Int):Int×Int:=if (modX x 10000).2≠0 then (0,(modX x 10000).2) else subX x (modX x 10000).1
theorem dec_Floor (x:Int) (hx:Is64 x) (w:World):Calls prog 188 #[.int .i64 x] w fun e w'=>e=.returned (.tuple #[.int .i64 (floorX x).1,.int .i64 (floorX x).2])/\w=w':=by
 have ha:Is64 10000:=⟨by decide,by decide⟩
 have HM:=zh (modX_64 x 10000 hx ha);have HX:=zh hx;by_cases h:(modX x 10000).2=0
 have e:floorX x=subX x (modX x 10000).1:=if_neg (fun h'=>h' h);rw[e];have k1:((modX x 10000).2 != 0)=false:=by simp[h]
 rotate_left
 have e:floorX x=(0,(modX x 10000).2):=if_pos h;rw[e];have k1:((modX x 10000).2 != 0)=true:=by simp[h]
 all_goals
  clear e hx;go_enter func188,ntmps188;go_wp2_with(first|(go_at_call 196;refine(dec_Mod _ _ HX.out ha _).mono ?_;rintro e w1 ⟨rfl,rfl⟩)|(go_at_call 268;refine(dec_Sub _ _ HX.out HM.out _).mono ?_;rintro e w1 ⟨rfl,rfl⟩))
  go_returns;exact⟨rfl,rfl⟩
theorem nums_abs (x:Int) (hx:In63 x) (g c:Nat) (w:World) (h0:w.cell? ⟨g,0,none⟩=some (.int .i64 x)):Rt 184 #[.slice (some ⟨g,0,none⟩) 1 c] w (vG (numG (max x (-x)))):=by
 have hl:=cltK h0;have hw:IntKind.i64.wrap (-x)= -x:=by unfold In63 at hx;rw[IntKind.wrap_i64];omega
 have hm:(if x< -x then -x else x)=max x (-x):=by split<;>omega
 go_enter func184,ntmps184;go_wp2_with fail
 go_region_held3 (fun w'=>w'.cell? ⟨g,0,none⟩=some (.int .i64 x))
  (first|(go_keep;done)|(repeat(first|assumption|with_reducible refine zAv ?_ _ _|with_reducible refine zAq ?_ _|with_reducible refine zB3 ?_)))
  (first|(go_at_call 140;refine mB (zB2 _ _) ?_;intro l n))
 all_goals go_wp2;all_goals(go_returns;exact rb_)
def signV (x:Int):V:=numG (if 0<x then 10000 else if x<0 then -10000 else 0)
theorem nums_sign (x:Int) (g c:Nat) (w:World) (h0:w.cell? ⟨g,0,none⟩=some (.int .i64 x)):Rt 185 #[.slice (some ⟨g,0,none⟩) 1 c] w (vG (signV x)):=by
 have hl:=cltK h0;unfold signV;by_cases h1:0<x
 rw[if_pos h1]
 rotate_left
 rw[if_neg h1];by_cases h2:x<0
 rw[if_pos h2]
 rotate_left
 rw[if_neg h2];all_goals
  go_enter func185,ntmps185;go_wp2_with(go_at_call 140;refine mB (zB2 _ _) ?_;intro l n)
  all_goals(go_returns;exact rb_)
theorem nums_int (x:Int) (hx:Is64 x) (g c:Nat) (w:World) (h0:w.cell? ⟨g,0,none⟩=some (.int .i64 x)):Rt 186 #[.slice (some ⟨g,0,none⟩) 1 c] w (vG (numC (floorX x))):=by
 have hl:=cltK h0;have HX:=zh hx;clear hx;go_enter func186,ntmps186;go_wp2_with(first|(go_at_call 188;refine(dec_Floor _ HX.out _).mono ?_;rintro e w1 ⟨rfl,rfl⟩)|(go_at_call 187;refine mB (zBm _ _ _) ?_;intro l n))
 all_goals(go_returns;exact rb_)
def zAn (x s:Int):Int×Int:=if s<=0 then (0,8) else if (modX x s).2≠0 then (0,(modX x s).2) else subX x (modX x s).1
theorem nums_floor (x s:Int) (hx:Is64 x) (hs:Is64 s) (w:World):Calls prog 193 #[.int .i64 x,.int .i64 s] w fun e w'=>e=.returned (.tuple #[.int .i64 (zAn x s).1,.int .i64 (zAn x s).2])/\w=w':=by
 have HM:=zh (modX_64 x s hx hs);have HX:=zh hx;have HS:=zh hs;by_cases h0:s<=0
 have e:zAn x s=(0,8):=if_pos h0;rw[e]
 rotate_left
 by_cases h:(modX x s).2=0
 have e:zAn x s=subX x (modX x s).1:=by unfold zAn;rw[if_neg h0,if_neg (fun h'=>h' h)]
 rw[e];have k1:((modX x s).2 != 0)=false:=by simp[h]
 rotate_left
 have e:zAn x s=(0,(modX x s).2):=by unfold zAn;rw[if_neg h0,if_pos h]
 rw[e];have k1:((modX x s).2 != 0)=true:=by simp[h]
 all_goals
  clear e hx hs;go_enter func193,ntmps193;go_wp2_with(first|(go_at_call 196;refine(dec_Mod _ _ HX.out HS.out _).mono ?_;rintro e w1 ⟨rfl,rfl⟩)|(go_at_call 268;refine(dec_Sub _ _ HX.out HM.out _).mono ?_;rintro e w1 ⟨rfl,rfl⟩))
  go_returns;exact⟨rfl,rfl⟩
theorem nums_floorF (x s:Int) (hx:Is64 x) (hs:Is64 s) (g c:Nat) (w:World) (h0:w.cell? ⟨g,0,none⟩=some (.int .i64 x)) (h1:w.cell? ⟨g,1,none⟩=some (.int .i64 s)):Rt 192 #[.slice (some ⟨g,0,none⟩) 2 c] w (vG (numC (zAn x s))):=by
 have hl:=cltK h0;have HX:=zh hx;have HS:=zh hs;clear hx hs;go_enter func192,ntmps192;go_wp2_with fail
 go_region_held3 (fun w'=>w'.cell? ⟨g,0,none⟩=some (.int .i64 x)/\w'.cell? ⟨g,1,none⟩=some (.int .i64 s))
  (first|(go_keep;done)|(go_split_ands;refine⟨?_,?_⟩<;>(repeat(first|assumption|with_reducible refine zAv ?_ _ _|with_reducible refine zAq ?_ _|with_reducible refine zB3 ?_))))
  (first|(go_at_call 193;refine(nums_floor _ _ HX.out HS.out _).mono ?_;rintro e w1 ⟨rfl,rfl⟩)|(go_at_call 187;refine mB (zBm _ _ _) ?_;intro l n))
 all_goals go_wp2;all_goals(go_returns;exact rb_)
theorem nums_mod (x s:Int) (hx:Is64 x) (hs:Is64 s) (g c:Nat) (w:World) (h0:w.cell? ⟨g,0,none⟩=some (.int .i64 x)) (h1:w.cell? ⟨g,1,none⟩=some (.int .i64 s)):Rt 195 #[.slice (some ⟨g,0,none⟩) 2 c] w (vG (numC (modX x s))):=by
 have hl:=cltK h0;have HX:=zh hx;have HS:=zh hs;clear hx hs;go_enter func195,ntmps195;go_wp2_with fail
 go_region_held3 (fun w'=>w'.cell? ⟨g,0,none⟩=some (.int .i64 x)/\w'.cell? ⟨g,1,none⟩=some (.int .i64 s))
  (first|(go_keep;done)|(go_split_ands;refine⟨?_,?_⟩<;>(repeat(first|assumption|with_reducible refine zAv ?_ _ _|with_reducible refine zAq ?_ _|with_reducible refine zB3 ?_))))
  (first|(go_at_call 196;refine(dec_Mod _ _ HX.out HS.out _).mono ?_;rintro e w1 ⟨rfl,rfl⟩)|(go_at_call 187;refine mB (zBm _ _ _) ?_;intro l n))
 all_goals go_wp2;all_goals(go_returns;exact rb_)
def ceilX (x s:Int):Int×Int:=(-(zAn (-x) s).1,(zAn (-x) s).2)
theorem floor2_63 (x s:Int):In63 (zAn x s).1:=by
 unfold zAn;split
 ·exact⟨by simp,by simp⟩
 ·split
  ·exact⟨by simp,by simp⟩
  ·unfold subX;split
   ·exact⟨by simp,by simp⟩
   ·unfold addX In63;split<;>simp<;>omega
theorem nums_ceil (x s:Int) (hx:In63 x) (hs:Is64 s) (g c:Nat) (w:World) (h0:w.cell? ⟨g,0,none⟩=some (.int .i64 x)) (h1:w.cell? ⟨g,1,none⟩=some (.int .i64 s)):Rt 194 #[.slice (some ⟨g,0,none⟩) 2 c] w (vG (numC (ceilX x s))):=by
 have hl:=cltK h0;have hw:IntKind.i64.wrap (-x)= -x:=by unfold In63 at hx;rw[IntKind.wrap_i64];omega
 have hq:=floor2_63 (-x) s;have hw2:IntKind.i64.wrap (-(zAn (-x) s).1)= -(zAn (-x) s).1:=by unfold In63 at hq;rw[IntKind.wrap_i64];omega
 have HX:=zh (show Is64 (-x) from by unfold In63 at hx;exact⟨by omega,by omega⟩);have HS:=zh hs;clear hx hs hq;go_enter func194,ntmps194;go_wp2_with fail
 go_region_held3 (fun w'=>w'.cell? ⟨g,0,none⟩=some (.int .i64 x)/\w'.cell? ⟨g,1,none⟩=some (.int .i64 s))
  (first|(go_keep;done)|(go_split_ands;refine⟨?_,?_⟩<;>(repeat(first|assumption|with_reducible refine zAv ?_ _ _|with_reducible refine zAq ?_ _|with_reducible refine zB3 ?_))))
  (first|(go_at_call 193;refine(nums_floor _ _ HX.out HS.out _).mono ?_;rintro e w1 ⟨rfl,rfl⟩)|(go_at_call 187;refine mB (zBm _ _ _) ?_;intro l n))
 all_goals go_wp2_with(first|(go_at_call 193;refine(nums_floor _ _ HX.out HS.out _).mono ?_;rintro e w1 ⟨rfl,rfl⟩)|(go_at_call 187;refine mB (zBm _ _ _) ?_;intro l n))
 all_goals(go_returns;exact rb_)
theorem nums_size (x:Int) (hx:In63 x) (w:World):Calls prog 274 #[.int .i64 x] w fun e w'=>e=.returned (.int .u64 (x.natAbs:Nat))/\w=w':=by
 unfold In63 at hx;have hw:IntKind.i64.wrap (-x)= -x:=by rw[IntKind.wrap_i64];omega
 have hm:(if x< -x then -x else x)=(x.natAbs:Int):=by split<;>omega
 have hu:IntKind.u64.wrap (x.natAbs:Int)=(x.natAbs:Int):=by rw[IntKind.wrap_u64];omega
 go_enter func274,ntmps274;go_wp2;all_goals go_returns;all_goals first|exact⟨rfl,rfl⟩|trace_state
def wholeX (n:Nat) (low:Bool):V:=if 922337203685477<n then errG 2 else numG (if low then -((n:Int)*10000) else (n:Int)*10000)
theorem nums_whole (n:Nat) (hn:n<18446744073709551616) (low:Bool) (w:World):Rt 273 #[.int .u64 (n:Nat),.bool low] w (vG (wholeX n low)):=by
 unfold wholeX;by_cases h:922337203685477<n
 have h':(922337203685477:Int)<n:=by omega
 rw[if_pos h]
 rotate_left
 have h': ¬ (922337203685477:Int)<n:=by omega
 have h1:IntKind.i64.wrap (n:Int)=n:=by rw[IntKind.wrap_i64];omega
 have h2:IntKind.i64.wrap ((n:Int)*10000)=(n:Int)*10000:=by rw[IntKind.wrap_i64];omega
 have h3:IntKind.i64.wrap (-((n:Int)*10000))= -((n:Int)*10000):=by rw[IntKind.wrap_i64];omega
 rw[if_neg h];clear hn;cases low;rw[if_neg (by decide)]
 rotate_left
 rw[if_pos rfl];all_goals
  go_enter func273,ntmps273;go_wp2_with(first|(go_at_call 13;refine mB (zA3 _ _) ?_;intro l m)|(go_at_call 140;refine mB (zB2 _ _) ?_;intro l m))
  all_goals(go_returns;exact rb_)
def quotX (x s:Int):V:=if s=0 then errG 3 else wholeX (x.natAbs / s.natAbs) (decide (decide (x<0)≠decide (s<0)))
theorem nums_quot (x s:Int) (hx:In63 x) (hs:In63 s) (g c:Nat) (w:World) (h0:w.cell? ⟨g,0,none⟩=some (.int .i64 x)) (h1:w.cell? ⟨g,1,none⟩=some (.int .i64 s)):Rt 197 #[.slice (some ⟨g,0,none⟩) 2 c] w (vG (quotX x s)):=by
 have hl:=cltK h0;unfold quotX;by_cases h:s=0
 ·rw[if_pos h];go_enter func197,ntmps197;go_wp2_with(go_at_call 13;refine mB (zA3 _ _) ?_;intro l m)
  all_goals(go_returns;exact rb_)
 ·rw[if_neg h];have hb:=xor_low x s hx.to64 hs.to64;have hd:decide (bits BinOp.xor IntKind.i64 x s<0)=decide (decide (x<0)≠decide (s<0)):=by rw[decide_eq_decide];rw[hb]
  obtain⟨lw,hc⟩:=lt_ (decide (decide (x<0)≠decide (s<0)));rw[hc] at hd ⊢;have hq:s.natAbs≠0:=by omega
  have hq2:((s.natAbs:Nat):Int)≠0:=by omega
  obtain⟨q,ha⟩:=lt_ (x.natAbs / s.natAbs);have he:q<18446744073709551616:=by
   have:=Nat.div_le_self x.natAbs s.natAbs;unfold In63 at hx;omega
  rw[ha];have hq4:((x.natAbs:Nat):Int) / ((s.natAbs:Nat):Int)=(q:Int):=by rw[<- ha];rfl
  have hq5:((x.natAbs:Nat):Int).tdiv ((s.natAbs:Nat):Int)=(q:Int):=by rw[<- ha];rfl
  have hq6:IntKind.u64.wrap (q:Int)=q:=by rw[IntKind.wrap_u64];omega
  have HX:=zh hx;have HS:=zh hs;clear hx hs hb hc ha;go_enter func197,ntmps197;go_wp2_with fail
  go_region_held3 (fun w'=>w'.cell? ⟨g,0,none⟩=some (.int .i64 x)/\w'.cell? ⟨g,1,none⟩=some (.int .i64 s))
   (first|(go_keep;done)|(go_split_ands;refine⟨?_,?_⟩<;>(repeat(first|assumption|with_reducible refine zAv ?_ _ _|with_reducible refine zAq ?_ _|with_reducible refine zB3 ?_))))
   (first|(go_at_call_of 274 (Value.int .i64 x);refine(nums_size x HX.out _).mono ?_;rintro e w1 ⟨rfl,rfl⟩)|(go_at_call_of 274 (Value.int .i64 s);refine(nums_size s HS.out _).mono ?_;rintro e w1 ⟨rfl,rfl⟩)|(go_at_call 273;refine mB (nums_whole q he lw _) ?_;intro l m))
  all_goals go_wp2;all_goals(go_returns;exact rb_)
def clampX (a b c:Int):V:=if c<b then errG 8 else numG (min (max a b) c)
theorem nums_clamp (x a b:Int) (g c:Nat) (w:World) (h0:w.cell? ⟨g,0,none⟩=some (.int .i64 x)) (h1:w.cell? ⟨g,1,none⟩=some (.int .i64 a)) (h2:w.cell? ⟨g,2,none⟩=some (.int .i64 b)):Rt 204 #[.slice (some ⟨g,0,none⟩) 3 c] w (vG (clampX x a b)):=by
 have hl:=cltK h0;have hm:(if x<a then a else x)=max x a:=by split<;>omega
 have ha:(if b<max x a then b else max x a)=min (max x a) b:=by split<;>omega
 unfold clampX;by_cases h:b<a
 ·rw[if_pos h];clear hm ha;go_enter func204,ntmps204;go_wp2_with fail;go_quiet (fail);all_goals go_wp2_with(go_at_call 13;refine mB (zA3 _ _) ?_;intro l m)
  all_goals(go_returns;exact rb_)
 ·rw[if_neg h];go_enter func204,ntmps204;go_wp2_with fail;go_quiet (fail);all_goals go_wp2_with fail
  go_region_held3 (fun w'=>w'.cell? ⟨g,0,none⟩=some (.int .i64 x)/\w'.cell? ⟨g,1,none⟩=some (.int .i64 a)/\w'.cell? ⟨g,2,none⟩=some (.int .i64 b))
   (first|(go_keep;done)|(go_split_ands;refine⟨?_,?_,?_⟩<;>(repeat(first|assumption|with_reducible refine zAv ?_ _ _|with_reducible refine zAq ?_ _|with_reducible refine zB3 ?_))))
   (first|(go_at_call 140;refine mB (zB2 _ _) ?_;intro l m))
  all_goals go_wp2;all_goals(go_returns;exact rb_)
theorem i64_and1 (n:Int):bits BinOp.and IntKind.i64 n 1=n % 2:=by
 have ha:(BitVec.ofInt 64 1).toNat=2 ^ 1-1:=by decide
 have key:(BitVec.ofInt 64 n &&& BitVec.ofInt 64 1).toNat=(n % ((2 ^ 64:Nat):Int)).toNat % 2 ^ 1:=by
  rw[BitVec.toNat_and,BitVec.toNat_ofInt,ha,Nat.and_two_pow_sub_one_eq_mod]
 show IntKind.i64.wrap ((BitVec.ofInt 64 n &&& BitVec.ofInt 64 1).toNat:Nat)=n % 2;rw[key,IntKind.wrap_i64];omega
def oddX (x:Int):V:=if (zAF x).2 then zAa ((zAF x).1 % 2==1) else errG 8
theorem nums_odd (x:Int) (hx:Is64 x) (g c:Nat) (w:World) (h0:w.cell? ⟨g,0,none⟩=some (.int .i64 x)):Rt 205 #[.slice (some ⟨g,0,none⟩) 1 c] w (vG (oddX x)):=by
 have hl:=cltK h0;have HX:=zh hx;have ha:=i64_and1 (zAF x).1;clear hx;unfold oddX;cases h:(zAF x).2;rw[if_neg (by decide)]
 rotate_left
 rw[if_pos rfl];all_goals
  go_enter func205,ntmps205;go_wp2_with(first|(go_at_call 152;refine(zB0 x HX.out.1 HX.out.2 _).mono ?_;rintro e w1 ⟨rfl,rfl⟩)|(go_at_call 13;refine mB (zA3 _ _) ?_;intro l m)|(go_at_call 178;refine mB (value_Truth _ _) ?_;intro l m))
  all_goals(go_returns;exact rb_)
theorem nums_gcd (b:Nat):∀ (a:Nat),a<18446744073709551616->b<18446744073709551616->∀ w:World,Calls prog 278 #[.int .u64 (a:Nat),.int .u64 (b:Nat)] w fun e w'=>e=.returned (.int .u64 (Nat.gcd a b:Nat))/\w=w':=by
 induction b using Nat.strongRecOn with
 | ind b ih =>
   intro a ha hb w;by_cases h:b=0
   ·subst h;rw[Nat.gcd_zero_right];clear ih;go_enter func278,ntmps278;go_wp2;go_returns;exact⟨rfl,rfl⟩
   ·have hr:a % b<b:=Nat.mod_lt a (by omega);have e:Nat.gcd a b=Nat.gcd b (a % b):=by rw[Nat.gcd_comm,Nat.gcd_rec,Nat.gcd_comm]
    have IH:=zh (ih (a % b) hr b hb (by omega));have h2:((b:Nat):Int)≠0:=by omega
    have h3:((a:Nat):Int) % ((b:Nat):Int)=((a % b:Nat):Int):=rfl;have h4:((a:Nat):Int).tmod ((b:Nat):Int)=((a % b:Nat):Int):=rfl;obtain⟨m,hm⟩:=lt_ (a % b);rw[hm] at IH h3 h4 e;rw[e];clear ih hr e hm;go_enter func278,ntmps278;go_wp2_with(go_at_call 278;refine(IH.out _).mono ?_;rintro e w1 ⟨rfl,rfl⟩)
    all_goals(go_returns;exact⟨rfl,rfl⟩)
end Go.Proofs.YtnccknhbplaieaaGreatDoor
namespace Go.Proofs.YtnccknhbplaieaaGreatDoor
open Go Go.Maps Go.WideMaps Go.RowKit
def plV (p:Int×Int):Value:=.agg #[.int .i64 p.1,.int .i64 p.2]
def plL (p:Int×Int):Lit:=.string (keyBytes [.int .i64 p.1,.int .i64 p.2])
def Ok64 (p:Int×Int):Prop:=Is64 p.1/\Is64 p.2
structure PlaceKey (P:Program) (k:TypeId):Prop where
 keyed:Keyed P k
 key:∀ {p:Int×Int},Ok64 p->keyOf P k (plV p)=some (plL p)
theorem PlaceKey.isKey {P:Program} {k:TypeId} (K:PlaceKey P k) {p:Int×Int} (h:Ok64 p):WideAt.IsKeyLit (plL p):=K.keyed.key (K.key h)
theorem PlaceKey.inj {P:Program} {k:TypeId} (K:PlaceKey P k) {p q:Int×Int} (hp:Ok64 p) (hq:Ok64 q) (h:plL p=plL q):p=q:=by
 have h1:=K.keyed.inj (K.key hp) (by rw[h];exact K.key hq);obtain⟨a,b⟩:=p;obtain⟨c,d⟩:=q;unfold plV at h1
 simpa using h1
def mkP (es:List ((Int×Int)×Value)):DataW Value:=es.foldl (fun D p=>D.put (plL p.1) (.held p.2)) (.map [])
def getP (es:List ((Int×Int)×Value)) (k:Int×Int):Option Value:=es.foldl (fun o p=>if p.1=k then some p.2 else o) none
theorem mkP_snoc (es:List ((Int×Int)×Value)) (s:Int×Int) (v:Value):mkP (es++[(s,v)])=(mkP es).put (plL s) (.held v):=by
 simp[mkP,List.foldl_append]
theorem specP_fold {P:Program} {K:TypeId} (KP:PlaceKey P K) (es:List ((Int×Int)×Value)) (k:Int×Int) (hk:Ok64 k) (hes:∀ p∈es,Ok64 p.1) (z:Value):∀ (D:DataW Value) (o:Option Value),IsMap D->Maps.has D (plL k)=o.isSome->D.atKey (plL k) (.held z)=.held (o.getD z) ->
  Maps.has (es.foldl (fun D p=>D.put (plL p.1) (.held p.2)) D) (plL k)=(es.foldl (fun o p=>if p.1=k then some p.2 else o) o).isSome /\
  (es.foldl (fun D p=>D.put (plL p.1) (.held p.2)) D).atKey (plL k) (.held z)=.held ((es.foldl (fun o p=>if p.1=k then some p.2 else o) o).getD z):=by
 induction es with
 | nil=>exact fun D o _ h1 h2=>⟨h1,h2⟩
 | cons p es ih =>
   intro D o hm h1 h2;obtain⟨s,v⟩:=p;refine ih (fun p hp=>hes p (List.mem_cons_of_mem _ hp)) _ _ (hm.put _ _) ?_ ?_
   ·by_cases h:s=k
    ·subst h;simp only[if_true];rw[has_put_same hm (KP.isKey hk)];rfl
    ·have ha:plL k≠plL s:=fun e=>h (KP.inj (hes (s,v) (by simp)) hk e.symm);simp only[if_neg h];rw[has_put_other ha,h1]
   ·by_cases h:s=k
    ·subst h;simp only[if_true];rw[atKey_put_same hm (KP.isKey hk)];rfl
    ·have ha:plL k≠plL s:=fun e=>h (KP.inj (hes (s,v) (by simp)) hk e.symm);simp only[if_neg h];rw[atKey_put_other ha,h2]
theorem mkP_spec {P:Program} {K:TypeId} (KP:PlaceKey P K) (es:List ((Int×Int)×Value)) (k:Int×Int) (hk:Ok64 k) (hes:∀ p∈es,Ok64 p.1) (z:Value) :
  Maps.has (mkP es) (plL k)=(getP es k).isSome/\(mkP es).atKey (plL k) (.held z)=.held ((getP es k).getD z) :=
 specP_fold KP es k hk hes z _ _ isMap_empty rfl rfl
def PlMap (P:Program) (k:TypeId) (w:World) (b:Nat) (es:List ((Int×Int)×Value)):Prop:=w.ownsMap P k rdv b es.length (mkP es)/\∀ p∈es,Ok64 p.1
section
variable {P:Program} {k e t:TypeId} {w w':World} {b:Nat} {es:List ((Int×Int)×Value)}
theorem PlMap.made (P:Program) (k:TypeId) (w:World):PlMap P k (w.alloc (.map #[] 0)) w.heap.size []:=⟨World.ownsMap_made w P k rdv,fun _ h=>by simp at h⟩
theorem PlMap.lt (h:PlMap P k w b es):b<w.heap.size:=World.ownsMap.lt h.1
theorem PlMap.alloc (h:PlMap P k w b es) (o:Obj):PlMap P k (w.alloc o) b es:=⟨World.ownsMap.alloc h.1 o,h.2⟩
theorem PlMap.drew (h:PlMap P k w b es):PlMap P k w.drew b es:=h
theorem PlMap.grown {row:Option Nat} (h:PlMap P k w b es) (hg:w.grownBy w' row) (hne:some b≠row):PlMap P k w' b es:=⟨World.ownsMap.kept h.1 hg hne,h.2⟩
theorem PlMap.below {B:Nat} (h:PlMap P k w b es) (hb:RowKit.Below B w w') (hlt:b<B):PlMap P k w' b es:=by
 obtain⟨⟨xs,clock,hx,r⟩,h2⟩:=h;exact⟨⟨xs,clock,(hb.block b hlt).trans hx,r⟩,h2⟩
theorem PlMap.setCell (h:PlMap P k w b es) {a:Addr} (ha:b≠a.block) (u:Value):PlMap P k (w.setCell a u) b es:=⟨World.ownsMap.setCell h.1 ha u,h.2⟩
theorem PlMap.look1 (h:PlMap P k w b es) (KP:PlaceKey P k) (ht:P.underlying t=some (.map k e)) {z:Value} (hz:(zeroValue e).run P w=.ok z w) (s:Int×Int) (hs:Ok64 s) :
  (Instr.lookup t (.map (some b)) (plV s) false).run P w=.ok ((getP es s).getD z) w:=by
 obtain⟨v,ps,ha,hv⟩:=World.ownsMap.lookup h.1 KP.keyed ht hz (zd:=.held z) (zp:=[]) rfl (KP.key hs);obtain⟨_,h2⟩:=mkP_spec KP es s hs h.2 z;rw[ha];rw[h2] at hv;simp only[rdv,Option.some.injEq,Prod.mk.injEq,DataW.held.injEq] at hv;rw[hv.1]
theorem PlMap.update (h:PlMap P k w b es) (KP:PlaceKey P k) (ht:P.underlying t=some (.map k e)) (hn:es.length<maxLen) (s:Int×Int) (hs:Ok64 s) (v:Value) :
  ∃ w',(Instr.mapUpdate t (.map (some b)) (plV s) v).run P w=.ok () w'/\PlMap P k w' b (es++[(s,v)])/\w.grownBy w' (some b):=by
 obtain⟨w',ha,h1,h2⟩:=World.ownsMap.update h.1 KP.keyed ht hn (val:=v) (d:=.held v) (ps:=[]) (KP.key hs) rfl;refine⟨w',ha,⟨?_,?_⟩,h2⟩
 ·rw[mkP_snoc,List.length_append];exact h1
 ·intro p hp;rcases List.mem_append.1 hp with hp|hp
  ·exact h.2 p hp
  ·simp only[List.mem_cons,List.not_mem_nil,or_false] at hp;subst hp;exact hs
end
section
variable {P:Program} {ops:Array Oper} {rest:List Oper} {o:Oper} {a:Act} {Q:Exit->Act->World->Prop}
theorem wpList_updateP (w:World) (hg:o.guard=none) (t:TypeId) (m x v:Operand) (hop:o.op=Op.mapUpdate t m x v) (k e:TypeId) (KP:PlaceKey P k) (ht:P.underlying t=some (.map k e)) (b:Nat) (es:List ((Int×Int)×Value))
  (hm:a.eval m=.map (some b)) (h:PlMap P k w b es) (hn:es.length<maxLen) (s:Int×Int) (hx:a.eval x=plV s) (hs:Ok64 s) (u:Value) (hv:a.eval v=u)
  (hK:∀ w',PlMap P k w' b (es++[(s,u)])->w.grownBy w' (some b)->wpList P ops Q rest (a.put o.dst undef) w'):wpList P ops Q (o::rest) a w:=by
 refine wpList_plain hg fun K' hK'=> ?_;obtain⟨w',ha,r1,r2⟩:=h.update KP ht hn s hs u;unfold Oper.wp;simp[execOp,hop,hm,hx,hv,ha,Result.andThen];exact hK' _ _ (hK w' r1 r2)
theorem wpList_look1P (w:World) (hg:o.guard=none) (t:TypeId) (m x:Operand) (hop:o.op=Op.lookup t m x false) (k e:TypeId) (KP:PlaceKey P k) (ht:P.underlying t=some (.map k e)) {z:Value} (hz:(zeroValue e).run P w=.ok z w) (b:Nat) (es:List ((Int×Int)×Value))
  (hm:a.eval m=.map (some b)) (h:PlMap P k w b es) (s:Int×Int) (hx:a.eval x=plV s) (hs:Ok64 s)
  (hK:wpList P ops Q rest (a.put o.dst ((getP es s).getD z)) w):wpList P ops Q (o::rest) a w:=by
 refine wpList_plain hg fun K' hK'=> ?_;unfold Oper.wp;simp[execOp,hop,hm,hx,h.look1 KP ht hz s hs,Result.andThen];exact hK' _ _ hK
end
theorem prog_laid:laidOutB Tryz.prog=true:=by kernel_rfl
theorem place_row:(273:TypeId)<Tryz.prog.types.size:=of_decide_eq_true (by kernel_rfl)
theorem place_wide:(match Tryz.prog.underlying 273 with|some (.array _ _)|some (.struct _)=>true|_=>false)=true:=by rw[Tryz.underlying273]
theorem place_law:KeyLaw Tryz.prog 273:=deep_law_laid prog_laid (m:=2) (by omega) place_row (by kernel_rfl) place_wide
theorem place_type:Tryz.prog.keyType 273=true:=by kernel_rfl
theorem place_cells:Tryz.prog.cellsOf 273=2:=by kernel_rfl
theorem int_cells:Tryz.prog.cellsOf 3=1:=by kernel_rfl
theorem types_size:∃ m,Tryz.prog.types.size=m+1:=⟨Tryz.prog.types.size-1,by kernel_rfl⟩
theorem wf64 {a:Int} (h:Is64 a):(Lit.int .i64 a).wf=true:=by
 have:=wrap64_wf a
 rwa[show wrap64 a=a by unfold wrap64;unfold Is64 at h;omega] at this
theorem place_key:PlaceKey Tryz.prog 273 where
 keyed:=Keyed.of_law place_law
 key {p} h:=by
  obtain⟨a,b⟩:=p;have wa:=wf64 h.1;have wb:=wf64 h.2;obtain⟨m,hm⟩:=types_size;unfold keyOf plV plL;simp only[Tryz.underlying273];rw[if_pos (by simp[place_type,Value.formed,Tryz.underlying273,place_cells]),hm];unfold Program.keyLits;simp only[Tryz.underlying273,Value.cells];rw[if_pos ⟨by rw[place_cells];rfl,by kernel_rfl⟩];simp[int_cells,Program.keyLits,Tryz.underlying3,wa,wb]
end Go.Proofs.YtnccknhbplaieaaGreatDoor
