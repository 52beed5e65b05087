/- Parts. -/
import Derived.Test.YtnccknhbplaieaaGreatDoorC38
set_option linter.all false
set_option maxRecDepth 100000
set_option maxHeartbeats 4000000
namespace Go.Proofs.YtnccknhbplaieaaGreatDoor
open Go Go.RowKit Go.Proofs.Tryz
open Go.Lib renaming hid->zh
open Go.IntKind renaming i64->Q3,u64->Q4,wrap_i64->Q7
open _root_.Nat renaming div_le_of_le_mul->Q5
theorem w64_nat {x:Nat} (h:x<9223372036854775808):wrap64 (x:Int)=(x:Int):=by unfold wrap64;omega
theorem wi_nat {x:Nat} (h:x<9223372036854775808):Q3.wrap (x:Int)=(x:Int):=by rw[Q7];omega
theorem zAS {x:Int} (h0: -9223372036854775808<=x) (h:x<9223372036854775808):Q3.wrap x=x:=by rw[Q7];omega
theorem zBN {x:Int} (h0: -9223372036854775808<=x) (h:x<9223372036854775808):wrap64 x=x:=by unfold wrap64;omega
theorem wu_in {x:Int} (h0:0<=x) (h:x<18446744073709551616):Q4.wrap x=x:=by rw[IntKind.wrap_u64];omega
theorem meanN_le {m n B:Nat} (hn:0<n) (h:m<=n*B):meanN m n<=B:=by
 have h1:m / n<=B:=Q5 h;unfold meanN;split
 ·rename_i h2;by_cases h3:m / n=B
  ·exfalso;have h4:=Nat.div_add_mod m n;rw[h3] at h4;have h5:m % n=0:=by omega
   rw[h5] at h2;omega
  ·omega
 ·exact h1
structure MnF (n:Nat) (H Q r r2 T d d2 t u q nu:Int):Prop where
 hn: ¬ n=0
 hnI: ¬ (n:Int)=0
 m1:H.tmod (n:Int)=r
 m2:H.tdiv (n:Int)=d
 m3:T.tmod (n:Int)=u
 m4:T.tdiv (n:Int)=t
 v1:wrap64 r=r
 v2:wrap64 d=d
 v3:wrap64 u=u
 v4:wrap64 t=t
 u1:Q3.wrap r=r
 u2:Q3.wrap d=d
 u3:Q3.wrap u=u
 u4:Q3.wrap t=t
 w1:Q3.wrap (r*4294967296)=r2
 w2:Q3.wrap (r2+Q)=T
 w3:Q4.wrap d=d
 w4:Q4.wrap (d*4294967296)=d2
 w5:Q4.wrap t=t
 w6:Q4.wrap (d2+t)=q
 w7:Q3.wrap ((n:Int)-u)=nu
theorem mean_00 (A:Option Addr) (n c:Nat) (w:World) (X Y H Q r r2 T d d2 t u q nu z y:Int) (hX:∀ W,Below w.heap.size w W->Calls prog 167 #[.slice A n c] W fun e w'=>e=.returned (.tuple #[.int .i64 X,.int .i64 Y])/\w'=W)
  (hN:∀ W,Rt 39 #[.int .i64 y] W (vG (numG y))) (k0: ¬ X<0) (k0B:decide (X<0)=false) (kH:X=H) (kQ:Y=Q) (F:MnF n H Q r r2 T d d2 t u q nu) (b0: ¬ nu<=u) (b0B:decide (nu<=u)=false) (z0:q=z) (z1:Q3.wrap z=z) (z2:wrap64 z=z) (z3:z=y) :
  Rt 121 #[.slice A n c] w (vG (numG y)):=by
 have HX:=zh hX;have HN:=zh hN;clear hX hN;obtain⟨hn,hnI,m1,m2,m3,m4,v1,v2,v3,v4,u1,u2,u3,u4,w1,w2,w3,w4,w5,w6,w7⟩:=F;obtain rfl:=kH;obtain rfl:=kQ;obtain rfl:=z0;obtain rfl:=z3;go_enter func121,ntmps121;go_wp2_with(go_at_call 167;refine(HX.out _ bel).mono ?_;rintro e w1 ⟨rfl,h⟩;obtain rfl:=h.symm;clear h)
 all_goals go_quiet (fail);all_goals go_wp2_with fail;all_goals go_quiet (fail);all_goals go_wp2_with(go_at_call 39;refine mB (HN.out _) ?_;intro l5 q5)
 clear m1 m2 m3 m4 v1 v2 v3 v4 u1 u2 u3 u4 w1 w2 w3 w4 w5 w6 w7 z1 z2;all_goals(go_returns;exact rb_)
theorem mean_01 (A:Option Addr) (n c:Nat) (w:World) (X Y H Q r r2 T d d2 t u q nu z y:Int) (hX:∀ W,Below w.heap.size w W->Calls prog 167 #[.slice A n c] W fun e w'=>e=.returned (.tuple #[.int .i64 X,.int .i64 Y])/\w'=W)
  (hN:∀ W,Rt 39 #[.int .i64 y] W (vG (numG y))) (k0: ¬ X<0) (k0B:decide (X<0)=false) (kH:X=H) (kQ:Y=Q) (F:MnF n H Q r r2 T d d2 t u q nu) (b0:nu<=u) (b0B:decide (nu<=u)=true) (z0:Q4.wrap (q+1)=z) (z1:Q3.wrap z=z) (z2:wrap64 z=z) (z3:z=y) :
  Rt 121 #[.slice A n c] w (vG (numG y)):=by
 have HX:=zh hX;have HN:=zh hN;clear hX hN;obtain⟨hn,hnI,m1,m2,m3,m4,v1,v2,v3,v4,u1,u2,u3,u4,w1,w2,w3,w4,w5,w6,w7⟩:=F;obtain rfl:=kH;obtain rfl:=kQ;obtain rfl:=z3;go_enter func121,ntmps121;go_wp2_with(go_at_call 167;refine(HX.out _ bel).mono ?_;rintro e w1 ⟨rfl,h⟩;obtain rfl:=h.symm;clear h)
 all_goals go_quiet (fail);all_goals go_wp2_with fail;all_goals go_quiet (fail);all_goals go_wp2_with(go_at_call 39;refine mB (HN.out _) ?_;intro l5 q5)
 clear m1 m2 m3 m4 v1 v2 v3 v4 u1 u2 u3 u4 w1 w2 w3 w4 w5 w6 w7 z1 z2;all_goals(go_returns;exact rb_)
theorem mean_10 (A:Option Addr) (n c:Nat) (w:World) (X Y H Q r r2 T d d2 t u q nu z y:Int) (hX:∀ W,Below w.heap.size w W->Calls prog 167 #[.slice A n c] W fun e w'=>e=.returned (.tuple #[.int .i64 X,.int .i64 Y])/\w'=W)
  (hN:∀ W,Rt 39 #[.int .i64 y] W (vG (numG y))) (k0:X<0) (k0B:decide (X<0)=true) (k1:Q3.wrap (-X)=H) (k1w:wrap64 (-X)=H) (k2: ¬ 0<Q) (k2B:decide (0<Q)=false) (kQ:Y=Q) (F:MnF n H Q r r2 T d d2 t u q nu) (b0: ¬ nu<=u) (b0B:decide (nu<=u)=false) (z0:q=z) (z1:Q3.wrap z=z) (z2:wrap64 z=z) (z3:Q3.wrap (-z)=y) (z4:wrap64 (-z)=y) :
  Rt 121 #[.slice A n c] w (vG (numG y)):=by
 have HX:=zh hX;have HN:=zh hN;clear hX hN;obtain⟨hn,hnI,m1,m2,m3,m4,v1,v2,v3,v4,u1,u2,u3,u4,w1,w2,w3,w4,w5,w6,w7⟩:=F;obtain rfl:=kQ;obtain rfl:=z0;go_enter func121,ntmps121;go_wp2_with(go_at_call 167;refine(HX.out _ bel).mono ?_;rintro e w1 ⟨rfl,h⟩;obtain rfl:=h.symm;clear h)
 all_goals go_quiet (fail);all_goals go_wp2_with fail;all_goals go_quiet (fail);all_goals go_wp2_with(go_at_call 39;refine mB (HN.out _) ?_;intro l5 q5)
 clear m1 m2 m3 m4 v1 v2 v3 v4 u1 u2 u3 u4 w1 w2 w3 w4 w5 w6 w7 z1 z2;all_goals(go_returns;exact rb_)
theorem mean_11 (A:Option Addr) (n c:Nat) (w:World) (X Y H Q r r2 T d d2 t u q nu z y:Int) (hX:∀ W,Below w.heap.size w W->Calls prog 167 #[.slice A n c] W fun e w'=>e=.returned (.tuple #[.int .i64 X,.int .i64 Y])/\w'=W)
  (hN:∀ W,Rt 39 #[.int .i64 y] W (vG (numG y))) (k0:X<0) (k0B:decide (X<0)=true) (k1:Q3.wrap (-X)=H) (k1w:wrap64 (-X)=H) (k2: ¬ 0<Q) (k2B:decide (0<Q)=false) (kQ:Y=Q) (F:MnF n H Q r r2 T d d2 t u q nu) (b0:nu<=u) (b0B:decide (nu<=u)=true) (z0:Q4.wrap (q+1)=z) (z1:Q3.wrap z=z) (z2:wrap64 z=z) (z3:Q3.wrap (-z)=y) (z4:wrap64 (-z)=y) :
  Rt 121 #[.slice A n c] w (vG (numG y)):=by
 have HX:=zh hX;have HN:=zh hN;clear hX hN;obtain⟨hn,hnI,m1,m2,m3,m4,v1,v2,v3,v4,u1,u2,u3,u4,w1,w2,w3,w4,w5,w6,w7⟩:=F;obtain rfl:=kQ;go_enter func121,ntmps121;go_wp2_with(go_at_call 167;refine(HX.out _ bel).mono ?_;rintro e w1 ⟨rfl,h⟩;obtain rfl:=h.symm;clear h)
 all_goals go_quiet (fail);all_goals go_wp2_with fail;all_goals go_quiet (fail);all_goals go_wp2_with(go_at_call 39;refine mB (HN.out _) ?_;intro l5 q5)
 clear m1 m2 m3 m4 v1 v2 v3 v4 u1 u2 u3 u4 w1 w2 w3 w4 w5 w6 w7 z1 z2;all_goals(go_returns;exact rb_)
theorem mean_20 (A:Option Addr) (n c:Nat) (w:World) (X Y H Q r r2 T d d2 t u q nu z y H1:Int) (hX:∀ W,Below w.heap.size w W->Calls prog 167 #[.slice A n c] W fun e w'=>e=.returned (.tuple #[.int .i64 X,.int .i64 Y])/\w'=W)
  (hN:∀ W,Rt 39 #[.int .i64 y] W (vG (numG y))) (k0:X<0) (k0B:decide (X<0)=true) (k1:Q3.wrap (-X)=H1) (k1w:wrap64 (-X)=H1) (k2:0<Y) (k2B:decide (0<Y)=true) (k3:Q3.wrap (H1-1)=H) (k4:Q3.wrap (4294967296-Y)=Q) (F:MnF n H Q r r2 T d d2 t u q nu) (b0: ¬ nu<=u) (b0B:decide (nu<=u)=false) (z0:q=z) (z1:Q3.wrap z=z) (z2:wrap64 z=z) (z3:Q3.wrap (-z)=y) (z4:wrap64 (-z)=y) :
  Rt 121 #[.slice A n c] w (vG (numG y)):=by
 have HX:=zh hX;have HN:=zh hN;clear hX hN;obtain⟨hn,hnI,m1,m2,m3,m4,v1,v2,v3,v4,u1,u2,u3,u4,w1,w2,w3,w4,w5,w6,w7⟩:=F;obtain rfl:=z0;go_enter func121,ntmps121;go_wp2_with(go_at_call 167;refine(HX.out _ bel).mono ?_;rintro e w1 ⟨rfl,h⟩;obtain rfl:=h.symm;clear h)
 all_goals go_quiet (fail);all_goals go_wp2_with fail;all_goals go_quiet (fail);all_goals go_wp2_with(go_at_call 39;refine mB (HN.out _) ?_;intro l5 q5)
 clear m1 m2 m3 m4 v1 v2 v3 v4 u1 u2 u3 u4 w1 w2 w3 w4 w5 w6 w7 z1 z2;all_goals(go_returns;exact rb_)
theorem mean_21 (A:Option Addr) (n c:Nat) (w:World) (X Y H Q r r2 T d d2 t u q nu z y H1:Int) (hX:∀ W,Below w.heap.size w W->Calls prog 167 #[.slice A n c] W fun e w'=>e=.returned (.tuple #[.int .i64 X,.int .i64 Y])/\w'=W)
  (hN:∀ W,Rt 39 #[.int .i64 y] W (vG (numG y))) (k0:X<0) (k0B:decide (X<0)=true) (k1:Q3.wrap (-X)=H1) (k1w:wrap64 (-X)=H1) (k2:0<Y) (k2B:decide (0<Y)=true) (k3:Q3.wrap (H1-1)=H) (k4:Q3.wrap (4294967296-Y)=Q) (F:MnF n H Q r r2 T d d2 t u q nu) (b0:nu<=u) (b0B:decide (nu<=u)=true) (z0:Q4.wrap (q+1)=z) (z1:Q3.wrap z=z) (z2:wrap64 z=z) (z3:Q3.wrap (-z)=y) (z4:wrap64 (-z)=y) :
  Rt 121 #[.slice A n c] w (vG (numG y)):=by
 have HX:=zh hX;have HN:=zh hN;clear hX hN;obtain⟨hn,hnI,m1,m2,m3,m4,v1,v2,v3,v4,u1,u2,u3,u4,w1,w2,w3,w4,w5,w6,w7⟩:=F;go_enter func121,ntmps121;go_wp2_with(go_at_call 167;refine(HX.out _ bel).mono ?_;rintro e w1 ⟨rfl,h⟩;obtain rfl:=h.symm;clear h)
 all_goals go_quiet (fail);all_goals go_wp2_with fail;all_goals go_quiet (fail);all_goals go_wp2_with(go_at_call 39;refine mB (HN.out _) ?_;intro l5 q5)
 clear m1 m2 m3 m4 v1 v2 v3 v4 u1 u2 u3 u4 w1 w2 w3 w4 w5 w6 w7 z1 z2;all_goals(go_returns;exact rb_)
theorem r10_mean (l:List Int) (A:Option Addr) (n c:Nat) (w:World) (hr:Reads w w.heap.size 1 A n (I l)) (hn0:0<n) (hm:n<=20000000) (h63:∀ x∈l,In63 x):Rt 121 #[.slice A n c] w (vG (numG (meanG l))):=by
 have hc:l.length=n:=by have:=hr.1;simpa [I] using this
 have hX:=fun (W:World) (hb:Below w.heap.size w W)=>r10_exact l A n c W ((hr.below hb).lift hb.size) hm fun x hx=>in64 (h63 x hx);have he:=sum_le l h63;rw[hc] at he;unfold meanG;rw[hc];obtain⟨S,hS⟩:=lt_ l.sum;rw[hS] at hX he ⊢;clear hS hr h63 hc;obtain⟨M,hM⟩:=lt_ S.natAbs;rw[hM] at he ⊢;obtain⟨H,hH⟩:=lt_ (M / 4294967296);obtain⟨Q,hQ⟩:=lt_ (M % 4294967296);have hg:H*4294967296+Q=M:=by omega
 have h2:=mean_two (H:=H) (Q:=Q) hn0;rw[hg] at h2;have ha:=meanN_le (m:=M) (B:=9223372036854775807) hn0 he;obtain⟨d,hd⟩:=lt_ (H / n);obtain⟨r,hf⟩:=lt_ (H % n);have hrn:r<n:=by rw[<- hf];exact Nat.mod_lt _ hn0
 rw[hd,hf] at h2;obtain⟨T,hT⟩:=lt_ (r*4294967296+Q);rw[hT] at h2;obtain⟨t,ht⟩:=lt_ (T / n);obtain⟨u,hu⟩:=lt_ (T % n);have hun:u<n:=by rw[<- hu];exact Nat.mod_lt _ hn0
 rw[ht,hu] at h2;have hQb:Q<4294967296:=by omega
 have htT:t<=T:=by rw[<- ht];exact Nat.div_le_self _ _
 have m1:(H:Int).tmod (n:Int)=(r:Int):=tmod_nat hf;have m2:(H:Int).tdiv (n:Int)=(d:Int):=zAt hd;have m3:(T:Int).tmod (n:Int)=(u:Int):=tmod_nat hu;have m4:(T:Int).tdiv (n:Int)=(t:Int):=zAt ht;unfold meanN at ha ⊢;rw[<- h2.1,<-h2.2] at ha ⊢;have hql:d*4294967296+t<=9223372036854775807:=by
  rw[h2.1];exact Q5 he
 clear h2 hd hf hu ht;have hHb:H<=n*2147483648:=by omega
 have F:MnF n H Q r ((r:Int)*4294967296) T d ((d:Int)*4294967296) t u ((d:Int)*4294967296+(t:Int)) ((n:Int)-(u:Int)):=⟨(by omega),(by omega),m1,m2,m3,m4,(w64_nat (by omega)),(w64_nat (by omega)),(w64_nat (by omega)),(w64_nat (by omega)),(wi_nat (by omega)),(wi_nat (by omega)),(wi_nat (by omega)),(wi_nat (by omega)),(zAS (by omega) (by omega)),((zAS (by omega) (by omega)).trans (by omega)),(wu_in (by omega) (by omega)),(wu_in (by omega) (by omega)),(wu_in (by omega) (by omega)),(wu_in (by omega) (by omega)),(zAS (by omega) (by omega))⟩
 by_cases hS0:S<0
 ·rw[if_pos hS0];by_cases hl:S % 4294967296=0
  ·have e2:S % 4294967296=(Q:Int):=by omega
   by_cases hup:n-u<=u
   ·rw[if_pos hup] at ha ⊢;exact mean_11 A n c w (S / 4294967296) (S % 4294967296) H Q r ((r:Int)*4294967296) T d ((d:Int)*4294967296) t u ((d:Int)*4294967296+(t:Int)) ((n:Int)-(u:Int)) (((d:Int)*4294967296+(t:Int))+1) (-((d*4294967296+t+1:Nat):Int)) hX (zAw _ (by unfold Is64;omega)) (by omega) (decide_eq_true (by omega)) ((zAS (by omega) (by omega)).trans (by omega)) ((zBN (by omega) (by omega)).trans (by omega)) (by omega) (decide_eq_false (by omega)) e2 F (by omega) (decide_eq_true (by omega)) (wu_in (by omega) (by omega)) (zAS (by omega) (by omega)) (zBN (by omega) (by omega)) ((zAS (by omega) (by omega)).trans (by omega)) ((zBN (by omega) (by omega)).trans (by omega))
   ·rw[if_neg hup] at ha ⊢;exact mean_10 A n c w (S / 4294967296) (S % 4294967296) H Q r ((r:Int)*4294967296) T d ((d:Int)*4294967296) t u ((d:Int)*4294967296+(t:Int)) ((n:Int)-(u:Int)) ((d:Int)*4294967296+(t:Int)) (-((d*4294967296+t:Nat):Int)) hX (zAw _ (by unfold Is64;omega)) (by omega) (decide_eq_true (by omega)) ((zAS (by omega) (by omega)).trans (by omega)) ((zBN (by omega) (by omega)).trans (by omega)) (by omega) (decide_eq_false (by omega)) e2 F (by omega) (decide_eq_false (by omega)) rfl (zAS (by omega) (by omega)) (zBN (by omega) (by omega)) ((zAS (by omega) (by omega)).trans (by omega)) ((zBN (by omega) (by omega)).trans (by omega))
  ·by_cases hup:n-u<=u
   ·rw[if_pos hup] at ha ⊢;exact mean_21 A n c w (S / 4294967296) (S % 4294967296) H Q r ((r:Int)*4294967296) T d ((d:Int)*4294967296) t u ((d:Int)*4294967296+(t:Int)) ((n:Int)-(u:Int)) (((d:Int)*4294967296+(t:Int))+1) (-((d*4294967296+t+1:Nat):Int)) (-(S / 4294967296)) hX (zAw _ (by unfold Is64;omega)) (by omega) (decide_eq_true (by omega)) (zAS (by omega) (by omega)) (zBN (by omega) (by omega)) (by omega) (decide_eq_true (by omega)) ((zAS (by omega) (by omega)).trans (by omega)) ((zAS (by omega) (by omega)).trans (by omega)) F (by omega) (decide_eq_true (by omega)) (wu_in (by omega) (by omega)) (zAS (by omega) (by omega)) (zBN (by omega) (by omega)) ((zAS (by omega) (by omega)).trans (by omega)) ((zBN (by omega) (by omega)).trans (by omega))
   ·rw[if_neg hup] at ha ⊢;exact mean_20 A n c w (S / 4294967296) (S % 4294967296) H Q r ((r:Int)*4294967296) T d ((d:Int)*4294967296) t u ((d:Int)*4294967296+(t:Int)) ((n:Int)-(u:Int)) ((d:Int)*4294967296+(t:Int)) (-((d*4294967296+t:Nat):Int)) (-(S / 4294967296)) hX (zAw _ (by unfold Is64;omega)) (by omega) (decide_eq_true (by omega)) (zAS (by omega) (by omega)) (zBN (by omega) (by omega)) (by omega) (decide_eq_true (by omega)) ((zAS (by omega) (by omega)).trans (by omega)) ((zAS (by omega) (by omega)).trans (by omega)) F (by omega) (decide_eq_false (by omega)) rfl (zAS (by omega) (by omega)) (zBN (by omega) (by omega)) ((zAS (by omega) (by omega)).trans (by omega)) ((zBN (by omega) (by omega)).trans (by omega))
 ·rw[if_neg hS0];have e1:S / 4294967296=(H:Int):=by omega
  have e2:S % 4294967296=(Q:Int):=by omega
  by_cases hup:n-u<=u
  ·rw[if_pos hup] at ha ⊢;exact mean_01 A n c w (S / 4294967296) (S % 4294967296) H Q r ((r:Int)*4294967296) T d ((d:Int)*4294967296) t u ((d:Int)*4294967296+(t:Int)) ((n:Int)-(u:Int)) (((d:Int)*4294967296+(t:Int))+1) (((d*4294967296+t+1:Nat):Int)) hX (zAw _ (by unfold Is64;omega)) (by omega) (decide_eq_false (by omega)) e1 e2 F (by omega) (decide_eq_true (by omega)) (wu_in (by omega) (by omega)) (zAS (by omega) (by omega)) (zBN (by omega) (by omega)) (by omega)
  ·rw[if_neg hup] at ha ⊢;exact mean_00 A n c w (S / 4294967296) (S % 4294967296) H Q r ((r:Int)*4294967296) T d ((d:Int)*4294967296) t u ((d:Int)*4294967296+(t:Int)) ((n:Int)-(u:Int)) ((d:Int)*4294967296+(t:Int)) (((d*4294967296+t:Nat):Int)) hX (zAw _ (by unfold Is64;omega)) (by omega) (decide_eq_false (by omega)) e1 e2 F (by omega) (decide_eq_false (by omega)) rfl (zAS (by omega) (by omega)) (zBN (by omega) (by omega)) (by omega)
theorem r10_integer (v:V) (h:Is64 v.num) (w:World):Rt 119 #[(vG v)] w (.tuple #[.int .i64 (intG v).1,.int .i64 (intG v).2]):=by
 have hc:=asNum_63 v h;obtain⟨x,hx⟩:=lt_ ((zA5 v).1);obtain⟨cd,he⟩:=lt_ ((zA5 v).2);have HA:=zh (fun W=>(show Rt 37 #[(vG v)] W (.tuple #[.int .i64 x,.int .i64 cd]) by have:=r2_AsNumber v h.1 W;rw[hx,he] at this;exact this));unfold intG;rw[hx,he];rw[hx] at hc;rw[whole_in hc];have hb:Is64 (x.tmod 10000):=mod_word hc.to64 (by unfold Is64;decide) (by decide);have ha:Is64 (x.tdiv 10000):=by
  have h1:(x.tdiv 10000).natAbs=x.natAbs / 10000:=Int.natAbs_tdiv x 10000;have h2:x.natAbs / 10000<=x.natAbs:=Nat.div_le_self _ _;unfold In63 at hc;unfold Is64;omega
 obtain⟨r,hr⟩:=lt_ (x.tmod 10000);obtain⟨d,hd⟩:=lt_ (x.tdiv 10000);rw[hr,hd];rw[hr] at hb;rw[hd] at ha;unfold Is64 at hb ha;have v1:=zBN (x:=r) (by omega) (by omega);have v2:=zBN (x:=d) (by omega) (by omega);have u1:=zAS (x:=r) (by omega) (by omega);have u2:=zAS (x:=d) (by omega) (by omega);clear hx he h hc hb ha;by_cases hc0:cd=0
 subst hc0;rw[if_neg (by simp)];by_cases hr0:r=0
 ·subst hr0;rw[if_pos rfl,if_neg (by simp)];clear u1 v1;go_enter func119,ntmps119;go_wp2_with((go_at_call 37;refine mB (HA.out _) ?_;intro l2 q2))
  all_goals(go_returns;exact rb_)
 rw[if_neg hr0,if_pos rfl];have hi:(r==0)=false:=by simpa using hr0
 have hj:decide (r=0)=false:=decide_eq_false hr0;have hk:(r != 0)=true:=by simpa using hr0
 rotate_left
 rw[if_pos hc0];have hf:(cd==0)=false:=by simpa using hc0
 have hg:decide (cd=0)=false:=decide_eq_false hc0;have hh:(cd != 0)=true:=by simpa using hc0
 all_goals
  go_enter func119,ntmps119;go_wp2_with((go_at_call 37;refine mB (HA.out _) ?_;intro l2 q2))
  clear v1 v2 u1 u2;all_goals(go_returns;exact rb_)
theorem r10_index (a:Arg) (es:List En) (v1 v2:V) (w:World) (hE:zAW w a es) (hs:zA4 a) (hn:a.n<=1000000000) (hord:zAm a.top a.left a.bottom a.right none es=true) (h1:Is64 v1.num) (h2:Is64 v2.num) :
  Rt 60 #[a.agg,(vG v1),(vG v2)] w (vG (indexG a es v1 v2)):=by
 have hd:=zh (r10_integer v1 h1);have hj:=zh (r10_integer v2 h2);have hk:=zh (fun W=>r10_rows a W (zAS (by unfold zA4 at hs;omega) (by unfold zA4 at hs;omega)) (zAS (by unfold zA4 at hs;omega) (by unfold zA4 at hs;omega)));have hi:=zh (fun W=>r10_cols a W (zAS (by unfold zA4 at hs;omega) (by unfold zA4 at hs;omega)) (zAS (by unfold zA4 at hs;omega) (by unfold zA4 at hs;omega)));have HH:=zh (fun (hlo:1<=(intG v1).1/\(intG v1).1<=rowsG a/\1<=(intG v2).1/\(intG v2).1<=colsG a) (W:World) (hb:Below w.heap.size w W)=>r10_has a es ((intG v1).1-1) ((intG v2).1-1) W (hE.below hb) (by omega) (zAS (by unfold zA4 at hs;unfold rowsG at hlo;omega) (by unfold zA4 at hs;unfold rowsG at hlo;omega)) (zAS (by unfold zA4 at hs;unfold colsG at hlo;omega) (by unfold zA4 at hs;unfold colsG at hlo;omega)));rw[first_look none es hord] at HH;have hu:rowsG a<=200001:=by unfold rowsG;unfold zA4 at hs;omega
 have ht:colsG a<=200001:=by unfold colsG;unfold zA4 at hs;omega
 unfold indexG;obtain⟨x,hx⟩:=lt_ ((intG v1).1);obtain⟨cx,he⟩:=lt_ ((intG v1).2);obtain⟨y,hy⟩:=lt_ ((intG v2).1);obtain⟨cy,hf⟩:=lt_ ((intG v2).2);obtain⟨ra,hc⟩:=lt_ (rowsG a);obtain⟨ca,ha⟩:=lt_ (colsG a);rw[hx,he] at hd;rw[hy,hf] at hj;rw[hc] at hk hu;rw[ha] at hi ht;rw[hx,hy,hc,ha] at HH;rw[hx,he,hy,hf,hc,ha];obtain⟨R,hR⟩:=lt_ (lookG a es (x-1,y-1));rw[hR] at HH ⊢;clear hx he hy hf hc ha hR hE hs hn hord h1 h2;unfold Arg.agg at *;by_cases hc1:cx=0
 subst hc1;rw[if_neg (by simp)];by_cases hc2:cy=0
 subst hc2;rw[if_neg (by simp)];by_cases k1:x<1
 rw[if_pos k1]
 rotate_left
 rw[if_neg k1];have k1B:decide (x<1)=false:=decide_eq_false k1;by_cases k2:ra<x
 rw[if_pos k2]
 rotate_left
 rw[if_neg k2];have k2B:decide (ra<x)=false:=decide_eq_false k2;by_cases k3:y<1
 rw[if_pos k3]
 rotate_left
 rw[if_neg k3];have k3B:decide (y<1)=false:=decide_eq_false k3;by_cases k4:ca<y
 rw[if_pos k4]
 rotate_left
 rw[if_neg k4];have k4B:decide (ca<y)=false:=decide_eq_false k4;have HH:=zh (HH.out ⟨by omega,by omega,by omega,by omega⟩);obtain⟨x1,hg⟩:=lt_ (x-1);obtain⟨y1,hh⟩:=lt_ (y-1);rw[hg,hh] at HH;have t1:Q3.wrap (x-1)=x1:=(zAS (by omega) (by omega)).trans hg;have t2:Q3.wrap (y-1)=y1:=(zAS (by clear t1;omega) (by clear t1;omega)).trans hh;clear hg hh
 rotate_left
 rw[if_pos hc2];have hp:(cy==0)=false:=by simpa using hc2
 have hq:decide (cy=0)=false:=decide_eq_false hc2;have hr:(cy != 0)=true:=by simpa using hc2
 rotate_left
 rw[if_pos hc1];have hl:(cx==0)=false:=by simpa using hc1
 have hm:decide (cx=0)=false:=decide_eq_false hc1;have ho:(cx != 0)=true:=by simpa using hc1
 all_goals
  go_enter func60,ntmps60;go_wp2_with(first|(go_at_call 119;first|(refine mB (hd.out _) ?_;intro l1 q1;clear hd)|(refine mB (hj.out _) ?_;intro l2 q2))|(go_at_call 22;refine mB (zA6 _ _) ?_;intro l5 q5)|(go_at_call 62;refine mB (hk.out _) ?_;intro l3 q3)|(go_at_call 63;refine mB (hi.out _) ?_;intro l4 q4)|(go_at_call 115;refine mB (HH.out _ bel) ?_;intro l7 q7))
  all_goals(go_returns;exact rb_)
end Go.Proofs.YtnccknhbplaieaaGreatDoor
