/- Parts. -/
import Derived.Test.YtnccknhbplaieaaGreatDoorC15
import Derived.Test.YtnccknhbplaieaaGreatDoorC14
set_option linter.all false
set_option maxRecDepth 100000
set_option maxHeartbeats 4000000
namespace Go.Proofs.YtnccknhbplaieaaGreatDoor
open Go Go.RowKit Go.Proofs.Tryz
open Go.Lib renaming hid->zh
open Go.IntKind renaming wrap_u64->Q3,wrap_i64->Q4,u64->Q5,i64->Q7
open _root_.List renaming mem_of_getElem?->Q8,getElem?_eq_getElem->QB,contains_eq_mem->QE,getElem?_eq_some_iff->QL,take_of_length_le->QN,length_map->QO,getD->QU
open _root_.Nat renaming gcd->Q9,zero_le->QA,div_le_self->QC,pow_le_pow_right->QD,pow_succ->QG,mul_le_mul->QH,lt_of_lt_of_le->QI,le_refl->QJ,mod_lt->QM,pow_pos->QQ,div_lt_iff_lt_mul->QR,div_mul_le_self->QS,le_trans->QT,div_pos->QV
open _root_.Int renaming natAbs_tdiv->QF,toNat_natCast->QK,natAbs_tmod->QP
def truncX (x n:Int):Int:=if 3<n then x else if n< -14 then 0 else x.tdiv (10 ^ (4-n).toNat)*10 ^ (4-n).toNat
theorem pow10_lt (j:Nat) (h:j<=18):(10:Int) ^ j<=1000000000000000000:=by
 have:j=0∨j=1∨j=2∨j=3∨j=4∨j=5∨j=6∨j=7∨j=8∨j=9∨j=10∨j=11∨j=12∨j=13∨j=14∨j=15∨j=16∨j=17∨j=18:=by omega
 rcases this with rfl|rfl|rfl|rfl|rfl|rfl|rfl|rfl|rfl|rfl|rfl|rfl|rfl|rfl|rfl|rfl|rfl|rfl|rfl<;>decide
theorem pow10_lt19 (j:Nat) (h:j<=19):(10:Nat) ^ j<=10000000000000000000:=by
 have:j<=18∨j=19:=by omega
 rcases this with h|rfl
 ·have h1:=pow10_lt j h;have h2:((10 ^ j:Nat):Int)=(10:Int) ^ j:=by norm_cast
  omega
 ·decide
theorem pow10_pos (j:Nat):1<=(10:Int) ^ j:=by
 have:0<(10:Int) ^ j:=Int.pow_pos (by decide);omega
theorem nums_trunc (x n:Int) (hx:In63 x) (hn:Is64 n) (w:World):Calls prog 190 #[.int .i64 x,.int .i64 n] w fun e w'=>e=.returned (.tuple #[.int .i64 (truncX x n),.int .i64 0])/\w=w':=by
 unfold truncX;by_cases h1:3<n
 ·rw[if_pos h1];go_enter func190,ntmps190;go_wp2;go_returns;exact⟨rfl,rfl⟩
 ·rw[if_neg h1];by_cases h2:n< -14
  ·rw[if_pos h2];go_enter func190,ntmps190;go_wp2;go_returns;exact⟨rfl,rfl⟩
  ·rw[if_neg h2];obtain⟨m,hm⟩:=lt_ ((4-n).toNat);have hm2:Q7.wrap (4-n)=m:=by rw[Q4];omega
   have ha:m<=18:=by omega
   rw[hm];clear hn hm;unfold In63 at hx;have HX:=zh hx;clear hx;go_enter func190,ntmps190;go_wp2
   go_loop [14,6] (fun t u=>∃ j:Nat,j<=m/\t=.int .i64 j/\u=.int .i64 (10 ^ j)) (fun t _=>m-(intOf t).toNat)
   case atStart=>exact⟨0,QA _,rfl,rfl⟩
   case round =>
    obtain⟨j,hj,rfl,rfl⟩:=hrel;by_cases hlt:j<m
    ·have hp:=pow10_lt (j+1) (by omega);have hb:=pow10_pos j;have hs:(10:Int) ^ (j+1)=10 ^ j*10:=Int.pow_succ _ _;have hw:Q7.wrap ((10:Int) ^ j*10)=10 ^ (j+1):=by rw[Q4,hs];omega
     go_wp2;go_round;case rel=>exact⟨j+1,by omega,by go_num,by first|rfl|rw[hw]⟩
     case measure=>simp[intOf];omega
    ·obtain rfl:j=m:=by omega
     have hp:=pow10_lt j ha;have hb:=pow10_pos j;obtain⟨u,hu⟩:=lt_ ((10:Int) ^ j);rw[hu] at hp hb ⊢;have hne:u≠0:=by omega
     have hq:(x.tdiv u*u).natAbs<=x.natAbs:=by rw[Int.natAbs_mul,QF];exact QS _ _
     have hX:=HX.out;have hc:(x.tdiv u).natAbs<=x.natAbs:=by rw[QF];exact QC _ _
     have hw:wrap64 (x.tdiv u*u)=x.tdiv u*u:=by unfold wrap64;omega
     have hd:wrap64 (x.tdiv u)=x.tdiv u:=by unfold wrap64;omega
     clear hX hq hc;go_wp2;go_returns;exact⟨by simp only[hd,hw];rfl,rfl⟩
def upN (n u:Nat):Nat:=if u-n % u<=n % u then n / u+1 else n / u
def roundN (n u:Nat) (low:Bool):Int×Int:=if 18446744073709551616<=upN n u*u then (0,2) else signX (upN n u*u) low
def zBW (x p:Int):Int×Int:=if x=minI then (0,2) else if 4<=p then (x,0) else if p< -15 then (0,0) else roundN x.natAbs (10 ^ (4-p).toNat) (lowX x)
theorem dec_Round (x p:Int) (hx:Is64 x) (hn:Is64 p) (w:World):Rt 191 #[.int .i64 x,.int .i64 p] w (.tuple #[.int .i64 (zBW x p).1,.int .i64 (zBW x p).2]):=by
 unfold zBW;by_cases h0:x=minI
 rw[if_pos h0];have k1:(x != minI)=false:=by simp[h0]
 rotate_left
 rw[if_neg h0];have k1:(x != minI)=true:=by simp[h0]
 by_cases h1:4<=p
 rw[if_pos h1]
 rotate_left
 rw[if_neg h1];by_cases h2:p< -15
 rw[if_pos h2]
 rotate_left
 ·rw[if_neg h2];obtain⟨m,hm⟩:=lt_ ((4-p).toNat);have hm2:Q7.wrap (4-p)=m:=by rw[Q4];omega
  have ho:m<=19:=by omega
  rw[hm];obtain⟨n,hy⟩:=lt_ x.natAbs;have hF:n<=9223372036854775808:=by unfold Is64 at hx;omega
  rw[hy];obtain⟨R,hR⟩:=lt_ (roundN n (10 ^ m) (lowX x));rw[hR];have HX:=zh hx;have HN:=zh hy;have HR:=zh hR;clear hn hm hx h0 hy hR;go_enter func191,ntmps191;go_wp2_with(go_at_call 86;refine(zAX _ _).mono ?_;rintro e w1 ⟨rfl,rfl⟩)
  go_loop [25,6] (fun t u=>∃ j:Nat,j<=m/\t=.int .i64 j/\u=.int .u64 ((10 ^ j:Nat):Int)) (fun t _=>m-(intOf t).toNat)
  case atStart=>exact⟨0,QA _,rfl,rfl⟩
  case round =>
   obtain⟨j,hj,rfl,rfl⟩:=hrel;by_cases hlt:j<m
   ·have hp:=pow10_lt19 (j+1) (by omega);have hs:(10:Nat) ^ (j+1)=10 ^ j*10:=QG _ _;obtain⟨v,hv⟩:=lt_ ((10:Nat) ^ j);rw[hs,hv] at hp;have hw:Q5.wrap ((v:Int)*10)=((v*10:Nat):Int):=by rw[Q3];omega
    rw[hv];go_wp2;go_round;case rel=>exact⟨j+1,by omega,by go_num,by rw[hs,hv];first|rfl|(rw[hw];done)|go_num⟩
    case measure=>simp[intOf];omega
   obtain rfl:j=m:=by omega
   have hp:=pow10_lt19 j ho;have hB:0<10 ^ j:=QQ (by decide);obtain⟨u,hu⟩:=lt_ ((10:Nat) ^ j);rw[hu] at hp hB ⊢;have hne:(u:Int)≠0:=by omega
   obtain⟨q,hq⟩:=lt_ (n / u);obtain⟨r,hr⟩:=lt_ (n % u);have hq1:(n:Int) / (u:Int)=(q:Int):=by rw[<- hq];rfl
   have hr1:(n:Int) % (u:Int)=(r:Int):=by rw[<- hr];rfl
   have hq2:(n:Int).tdiv (u:Int)=(q:Int):=by rw[<- hq];rfl
   have hr2:(n:Int).tmod (u:Int)=(r:Int):=by rw[<- hr];rfl
   have hru:r<u:=by rw[<- hr];exact QM _ hB
   have hqn:q<=n:=by rw[<- hq];exact QC _ _
   have hw1:Q5.wrap (q:Int)=q:=by rw[Q3];omega
   have hw2:Q5.wrap ((u:Int)-(r:Int))=((u-r:Nat):Int):=by rw[Q3];omega
   have hG:Q5.wrap ((q:Int)+1)=((q+1:Nat):Int):=by rw[Q3];omega
   have hg:upN n u=if u-r<=r then q+1 else q:=by unfold upN;rw[hq,hr]
   obtain⟨s,hs⟩:=lt_ (upN n u);have he:R=if 18446744073709551616<=s*u then (0,2) else signX (s*u) (lowX x):=by rw[<- HR.out,hu];unfold roundN;rw[hs]
   rw[hs] at hg;have ha:s<18446744073709551616:=by rw[hg];split<;>omega
   have hf:s=if u-r<=r then q+1 else q:=hg;obtain⟨hi,hh⟩:=lt_ (s*u / 18446744073709551616);obtain⟨lo,hk⟩:=lt_ (s*u % 18446744073709551616);have hz:=zh hh;have hA:=zh hk;have US:=zh (show u<18446744073709551616 by omega);have HS:=zh ha;clear hq hr hs hg HR;by_cases hc:u-r<=r
   rw[if_pos hc] at hf;have hD:((u-r:Nat):Int)<=(r:Int):=by omega
   have hC:(q:Int)+1=(s:Int):=by omega
   clear hG hf
   rotate_left
   rw[if_neg hc] at hf;have hD: ¬ ((u-r:Nat):Int)<=(r:Int):=by omega
   subst hf;all_goals
    by_cases hov:18446744073709551616<=s*u
    ·rw[if_pos hov] at he;have hd:(0:Int)<(hi:Int):=by have:=QV hov (by decide);omega
     subst he;clear hov hh hk ha;go_wp2_with fail
     go_at_call 270
     refine(zBP x HX.out _).mono ?_;rw[HN.out];rintro e w1 ⟨rfl,rfl⟩;go_wp2_with fail;go_quiet (fail);all_goals go_wp2_with(go_at_call 271;(try rw[hC]);refine(Tryz.bits_Mul64 s u HS.out US.out _).mono ?_;rw[hz.out,hA.out];rintro e w1 ⟨rfl,rfl⟩)
     all_goals(go_returns;exact rb_)
    ·rw[if_neg hov] at he;have hE:s*u / 18446744073709551616=0:=Nat.div_eq_of_lt (by omega);have hd: ¬ (0:Int)<(hi:Int):=by omega
     have ht:s*u % 18446744073709551616=s*u:=Nat.mod_eq_of_lt (by omega);have hb:s*u=lo:=by omega
     have hl:lo<18446744073709551616:=by omega
     rw[hb] at he;subst he;clear hov hh hk ha hE ht hb;go_wp2_with fail
     go_at_call 270
     refine(zBP x HX.out _).mono ?_;rw[HN.out];rintro e w1 ⟨rfl,rfl⟩;go_wp2_with fail;go_quiet (fail);all_goals go_wp2_with(first|(go_at_call 271;(try rw[hC]);refine(Tryz.bits_Mul64 s u HS.out US.out _).mono ?_;rw[hz.out,hA.out];rintro e w1 ⟨rfl,rfl⟩)|(go_at_call 272;refine(dec_signed lo hl _ _).mono ?_;rintro e w1 ⟨rfl,rfl⟩))
     all_goals(go_returns;exact rb_)
 all_goals
  clear h0;go_enter func191,ntmps191;go_wp2_with(go_at_call 86;refine(zAX _ _).mono ?_;rintro e w1 ⟨rfl,rfl⟩)
  go_returns;exact rb_
def fac:Nat->Nat
 | 0=>1
 | n+1=>fac n*(n+1)
theorem fac_mono {m n:Nat} (h:m<=n):fac m<=fac n:=by
 induction h with
 | refl=>exact QJ _
 | @step k _ ih=>exact QT ih (Nat.le_mul_of_pos_right _ (Nat.succ_pos k))
theorem fac_small {i:Nat} (h:fac i<=922337203685477):i<=17:=by
 rcases Nat.lt_or_ge 17 i with h1|h1
 ·have h2:fac 18<=fac i:=fac_mono h1;have h3:fac 18=6402373705728000:=by decide
  omega
 ·exact h1
def factX (x:Int):V:=if (zAF x).2=false∨(zAF x).1<0 then errG 8 else wholeX (fac (zAF x).1.toNat) false
theorem whole_64 (x:Int) (hx:Is64 x): -922337203685478<=(zAF x).1/\(zAF x).1<=922337203685478:=by
 unfold zAF;unfold Is64 at hx;have h1:(x.tdiv 10000).natAbs=x.natAbs / 10000:=QF x 10000;split
 ·exact⟨by simp,by simp⟩
 ·dsimp only[vG];omega
theorem nums_fact (x:Int) (hx:Is64 x) (g c:Nat) (w:World) (h0:w.cell? ⟨g,0,none⟩=some (.int .i64 x)):Rt 203 #[.slice (some ⟨g,0,none⟩) 1 c] w (vG (factX x)):=by
 have hl:=cltK h0;have HX:=zh hx;have hr:=whole_64 x hx;clear hx;obtain⟨n,hn⟩:=lt_ ((zAF x).1);obtain⟨b,hb⟩:=lt_ ((zAF x).2);unfold factX;rw[hn,hb];rw[hn] at hr;have HN:=zh hn;have HB:=zh hb;clear hn hb;by_cases h:b=false∨n<0
 rw[if_pos h];cases b
 rotate_left
 have h':n<0:=by simpa using h
 clear h
 rotate_left
 ·rw[if_neg h];have hj:b=true:=by cases b<;>simp_all
  have h': ¬ n<0:=fun e=>h (.inr e);subst hj;clear h;obtain⟨k,hk⟩:∃ k:Nat,n=k:=⟨n.toNat,by omega⟩
  subst hk;rw[QK];obtain⟨R,hR⟩:=lt_ (wholeX (fac k) false);rw[hR];have HR:=zh hR;clear hR;go_enter func203,ntmps203;go_wp2_with(go_at_call 152;refine(zB0 x HX.out.1 HX.out.2 _).mono ?_;rw[HN.out,HB.out];rintro e w1 ⟨rfl,rfl⟩)
  go_loop [6,5] (fun t u=>∃ i:Nat,1<=i/\(i<=k∨i=1)/\t=.int .i64 ((i+1:Nat):Int)/\u=.int .u64 ((fac i:Nat):Int)/\fac i<=922337203685477) (fun t _=>k+1-(intOf t).toNat)
  case atStart=>exact⟨1,by omega,by omega,rfl,rfl,by decide⟩
  case round =>
   obtain⟨i,hi,hh,rfl,rfl,hf⟩:=hrel;have hs:=fac_small hf;by_cases hlt:i+1<=k
   ·have hc:((i+1:Nat):Int)<=(k:Int):=by omega
    have hm:fac (i+1)=fac i*(i+1):=rfl;obtain⟨f,hd⟩:=lt_ (fac i);obtain⟨f2,ha⟩:=lt_ (fac (i+1));have hg:f*(i+1)<=922337203685477*18:=QH (by omega) (by omega);obtain⟨q,hq⟩:=lt_ (i+1);rw[hd,ha] at hm;rw[hd];rw[hq] at hm hg hc ⊢;have hm':(f:Int)*(q:Int)=(f2:Int):=by rw[hm];simp
    have hf2:f2<18446744073709551616:=by omega
    have hf1:f<=922337203685477:=by omega
    have hq1:q<=18:=by omega
    have hq2:2<=q:=by omega
    have HF:=zh ha;have HQ:=zh hq;have HT:=zh hlt;have HI:=zh hi;have hu:Q5.wrap (q:Int)=q:=by rw[Q3];omega
    have hu2:Q5.wrap (f2:Int)=f2:=by rw[Q3];omega
    by_cases ho:922337203685477<f2
    ·have ht:(922337203685477:Int)<(f2:Int):=by omega
     have he:R=errG 2:=by
      rw[<- HR.out];have h5:f2<=fac k:=by rw[<- ha];exact fac_mono hlt
      unfold wholeX;rw[if_pos (by omega)]
     subst he;clear HR hm hd ha hq hg hf hs hi hh hlt ho;go_wp2_with(go_at_call 13;refine mB (zA3 _ _) ?_;intro l m)
     go_returns;exact rb_
    ·have ht: ¬ (922337203685477:Int)<(f2:Int):=by omega
     clear hm hd ha hq hg hf hs hi hh hlt ho;go_wp2;go_round;case rel =>
      have hv:=HQ.out;have hp:=HF.out;have ht':=HT.out;have ho2:f2<=922337203685477:=by omega
      exact⟨i+1,by omega,by omega,by go_num,by rw[hp],by omega⟩
     case measure=>have hv:=HQ.out;simp[intOf];omega
   ·have hc: ¬ ((i+1:Nat):Int)<=(k:Int):=by omega
    have he:R=wholeX (fac i) false:=by
     rw[<- HR.out];have:fac k=fac i:=by
      rcases hh with h|h
      ·have:i=k:=by omega
       rw[this]
      ·subst h;have:k=0∨k=1:=by omega
       rcases this with rfl|rfl<;>rfl
     rw[this]
    subst he;clear HR;go_wp2_with(go_at_call 273;refine mB (nums_whole (fac i) (by omega) false _) ?_;intro l m)
    go_returns;exact rb_
 all_goals
  go_enter func203,ntmps203;go_wp2_with(first|(go_at_call 152;refine(zB0 x HX.out.1 HX.out.2 _).mono ?_;rw[HN.out,HB.out];rintro e w1 ⟨rfl,rfl⟩)|(go_at_call 13;refine mB (zA3 _ _) ?_;intro l m))
  all_goals(go_returns;exact rb_)
def bitN (j:Nat):Nat:=1099511627776 / 2 ^ j
def sqN (N:Nat):Nat->Nat
 | 0=>0
 | j+1=>if (sqN N j+bitN j)*(sqN N j+bitN j)<=N then sqN N j+bitN j else sqN N j
theorem bit_half (j:Nat):bitN (j+1)=bitN j / 2:=by
 unfold bitN;rw[QG,Nat.div_div_eq_div_mul]
theorem bit_zero (j:Nat) (h:41<=j):bitN j=0:=by
 unfold bitN;refine Nat.div_eq_of_lt ?_
 calc 1099511627776<2 ^ 41:=by decide
  _<=2 ^ j:=QD (by decide) h
theorem bit_pos (j:Nat) (h:j<41):0<bitN j:=by
 unfold bitN;refine QV ?_ (QQ (by decide))
 calc 2 ^ j<=2 ^ 40:=QD (by decide) (by omega)
  _=1099511627776:=by decide
theorem sq_lt (N:Nat):∀ j,j<=41->sqN N j+2*bitN j<=2199023255552
 | 0,_=>by show 0+2*bitN 0<=2199023255552;decide
 | j+1,h=>by
   have ih:=sq_lt N j (by omega);have hb:=bit_half j;unfold sqN;split<;>omega
def sqrtX (x:Int):Int×Int:=if x=minI then (0,2) else if x<0 then (0,8) else (((sqN (x.toNat*40000) 41+1) / 2:Nat),0)
theorem dec_Sqrt (x:Int) (hx:Is64 x) (w:World):Rt 200 #[.int .i64 x] w (.tuple #[.int .i64 (sqrtX x).1,.int .i64 (sqrtX x).2]):=by
 unfold sqrtX;by_cases h0:x=minI
 rw[if_pos h0];have k1:(x != minI)=false:=by simp[h0]
 rotate_left
 rw[if_neg h0];have k1:(x != minI)=true:=by simp[h0]
 by_cases h1:x<0
 rw[if_pos h1]
 rotate_left
 ·rw[if_neg h1];obtain⟨n,hn⟩:∃ n:Nat,x=n:=⟨x.toNat,by omega⟩
  subst hn;have hg:n<=9223372036854775807:=by unfold Is64 at hx;omega
  rw[QK];obtain⟨N,hN⟩:=lt_ (n*40000);rw[hN];obtain⟨hi,hr⟩:=lt_ (N / 18446744073709551616);obtain⟨lo,ht⟩:=lt_ (N % 18446744073709551616);obtain⟨R,hR⟩:=lt_ ((sqN N 41+1) / 2);rw[hR];have HR:=zh hR;have HN:=zh hN;have ho:=zh hr;have hp:=zh ht;have hy:=zh hg;have hu:Q5.wrap (n:Int)=n:=by rw[Q3];omega
  clear hR hN hr ht hg hx h0;go_enter func200,ntmps200;go_wp2_with(first|(go_at_call 86;refine(zAX _ _).mono ?_;rintro e w1 ⟨rfl,rfl⟩)|(go_at_call 271;refine(Tryz.bits_Mul64 n 40000 (by have:=hy.out;omega) (by decide) _).mono ?_;rw[HN.out,ho.out,hp.out];rintro e w1 ⟨rfl,rfl⟩))
  go_loop [7,6] (fun t u=>∃ j:Nat,j<=41/\t=.int .u64 ((bitN j:Nat):Int)/\u=.int .u64 ((sqN N j:Nat):Int)) (fun t _=>(intOf t).toNat)
  case atStart=>exact⟨0,by omega,rfl,rfl⟩
  case round =>
   obtain⟨j,hj,rfl,rfl⟩:=hrel;by_cases hlt:j<41
   have hb:=bit_pos j hlt;have hh:=bit_half j;have hs:=sq_lt N j hj;have hq:sqN N (j+1)=if (sqN N j+bitN j)*(sqN N j+bitN j)<=N then sqN N j+bitN j else sqN N j:=rfl;obtain⟨b,hf⟩:=lt_ (bitN j);obtain⟨h,hd⟩:=lt_ (sqN N j);obtain⟨b2,hk⟩:=lt_ (bitN (j+1));obtain⟨h2,hm⟩:=lt_ (sqN N (j+1));rw[hf,hd] at hs hq;rw[hf] at hb;rw[hf,hk] at hh;rw[hm] at hq;rw[hf,hd];have hz:=zh hk;have hA:=zh hm;obtain⟨s,hF⟩:=lt_ (h+b);rw[hF] at hq;have hs1:s<=2199023255552:=by omega
   obtain⟨p1,hw⟩:=lt_ (s*s / 18446744073709551616);obtain⟨p0,hv⟩:=lt_ (s*s % 18446744073709551616);have hC:=zh hw;have hB:=zh hv;have HS:=zh (show s<18446744073709551616 by omega);have hc:(s*s<=N) ↔ (p1<hi∨p1=hi/\p0<=lo):=by
    have e1:=ho.out;have e2:=hp.out;constructor<;>intro h<;>omega
   have hb0:(0:Int)<(b:Int):=by omega
   have hhb:(h:Int)+(b:Int)=(s:Int):=by omega
   clear hf hd hk hm hw hv;by_cases ha:p1<hi
   have hD:(p1:Int)<(hi:Int):=by omega
   rw[if_pos (hc.2 (.inl ha))] at hq;have HV:=zh (show h2=s from hq)
   rotate_left
   have hD: ¬ (p1:Int)<(hi:Int):=by omega
   by_cases he:p1=hi
   by_cases hl:p0<=lo
   have hE:(p0:Int)<=(lo:Int):=by omega
   rw[if_pos (hc.2 (.inr ⟨he,hl⟩))] at hq;subst he;clear hc;have HV:=zh (show h2=s from hq)
   rotate_left
   have hE: ¬ (p0:Int)<=(lo:Int):=by omega
   rw[if_neg (fun h=>(hc.1 h).elim ha (fun h=>hl h.2))] at hq;subst he;clear hc;have HV:=zh (show h2=h from hq)
   rotate_left
   have he': ¬ (p1:Int)=(hi:Int):=by omega
   rw[if_neg (fun h=>(hc.1 h).elim ha (fun h=>he h.1))] at hq;have HV:=zh (show h2=h from hq)
   rotate_left
   ·obtain rfl:j=41:=by omega
    have hb:=bit_zero 41 (QJ _);have hs:=sq_lt N 41 (QJ _);have hR:=HR.out;obtain⟨h,hd⟩:=lt_ (sqN N 41);rw[hb,hd] at hs;rw[hd] at hR;rw[hb,hd];subst hR;clear hd HR;go_wp2;go_returns;exact rb_
   all_goals
    clear hq;go_wp2_with(go_at_call 271;refine(Tryz.bits_Mul64 s s HS.out HS.out _).mono ?_;rw[hC.out,hB.out];rintro e w1 ⟨rfl,rfl⟩)
    go_round;case rel=>exact⟨j+1,by omega,by rw[hz.out,hh];first|rfl|go_num,by rw[hA.out,HV.out]⟩
    case measure=>simp[intOf];omega
 all_goals
  clear h0;go_enter func200,ntmps200;go_wp2_with(go_at_call 86;refine(zAX _ _).mono ?_;rintro e w1 ⟨rfl,rfl⟩)
  go_returns;exact rb_
def I (l:List Int):List Value:=l.map fun x=>.int .i64 x
def wN (x:Int):Nat:=(zAF x).1.natAbs
def allW (l:List Int):Bool:=l.all fun x=>(zAF x).2
theorem allW_take {l:List Int} {j:Nat} {a:Int} (h:l[j]? =some a):allW (l.take (j+1))=(allW (l.take j)&&(zAF a).2):=by
 unfold allW;rw[take1 h];simp
theorem allW_false {l:List Int} {j:Nat} {a:Int} (h:l[j]? =some a) (h2:(zAF a).2=false):allW l=false:=by
 unfold allW;rw[List.all_eq_false];exact⟨a,Q8 h,by simp[h2]⟩
theorem whole_63 (x:Int) (hx:Is64 x):In63 (zAF x).1:=by
 have:=whole_64 x hx;unfold In63;omega
theorem nums_wholes (l:List Int) (hl:∀ x∈l,In63 x) (hn:l.length<=1000) (g c:Nat) (w:World) (h:AtB w g (I l)) (hg:g<w.heap.size) :
  Calls prog 277 #[.slice (some ⟨g,0,none⟩) l.length c] w fun e w'=>(∃ r,e=.returned (.tuple #[r,.bool (allW l)])/\(allW l=true->Words w' r (l.map wN)))/\Below w.heap.size w w':=by
 obtain⟨i0,hi,ht,hv,hw⟩:=info_parts info_U;obtain⟨n,hr⟩:=lt_ l.length;rw[hr] at hn ⊢;have HL:=zh hl;have HA:=zh h;have HN:=zh hr;clear hl h;go_enter func277,ntmps277;go_wp2
 go_loopw [11,4] (fun t v wr=>∃ j:Nat,j<=n/\t=.int .i64 j/\allW (l.take j)=true/\StkRel w wr 133 1 v j (U ((l.take j).map wN))) (fun t _ _=>n-(intOf t).toNat)
 case atStart=>exact⟨0,QA _,rfl,rfl,Below.refl _ _,World.ownsRow_nil _ _ _ _⟩
 case round =>
  obtain⟨j,hj,rfl,hc,hR⟩:=hrel;have HS:=zh hR;have hh:=zh hc;have hsz:=hR.1.size;clear hR hc;by_cases hlt:j<n
  ·obtain⟨a,ha⟩:∃ a,l[j]? =some a:=⟨_,QB (show j<l.length by omega)⟩
   have c0:wr.cell? ⟨g,j,none⟩=some (.int .i64 a):=by
    have h1:=HA.out j _ (show (I l)[j]? =some (.int .i64 a) by simp[I,ha]);exact(HS.out.1.cell (p:=⟨g,_,none⟩) (World.block_lt_of_cell? w _ h1)).trans h1
   have hk:=(HL.out a (Q8 ha)).to64;have hp:=zh (whole_63 a hk);have hd:=zh hk;have hm:=zh ha;clear ha hk;cases hb:(zAF a).2
   ·have HF:=zh (allW_false hm.out hb);go_wp2_with(go_at_call 152;refine(zB0 a hd.out.1 hd.out.2 _).mono ?_;rintro e w1 ⟨rfl,rfl⟩)
    go_returns;exact⟨⟨.slice none 0 0,by rw[HF.out];rfl,fun h=>by rw[HF.out] at h;cases h⟩,HS.out.1⟩
   ·have HT:=zh (show allW (l.take (j+1))=true by rw[allW_take hm.out,hh.out,hb];rfl);go_wp2_with(first|(go_at_call 152;refine(zB0 a hd.out.1 hd.out.2 _).mono ?_;rintro e w1 ⟨rfl,rfl⟩)|(go_at_call 274;refine(nums_size _ hp.out _).mono ?_;rintro e w1 ⟨rfl,rfl⟩)|(at_builtin;refine wpList_append_own _ rfl _ _ 223 rfl w.heap.size 133 i0 _ 1 8 underlying223 hi ht hv hw rfl (by decide) _ _ _ rfl (stk_below HS.out.2 bel) _ 1 1 (U [wN a]) rfl rfl ?_ ?_ ?_ ?_ ?_ ?_))
    ·exact fun i u hu=>zBp (by simp) i u hu
    ·exact U_one _
    ·simp only[maxLen];omega
    ·omega
    ·have h1:=HS.out.1.size;simp at h1 ⊢
     try omega
    ·intro v' w1 hf he _;have R:=StkRel.step HS.out bel (show w1.ownsRow w.heap.size 133 1 v' (j+1) (U ((l.take j).map wN)++U [wN a]) from by simpa using hf) he;rw[<- U_append,show (l.take j).map wN++[wN a]=(l.take (j+1)).map wN by rw[take1 hm.out];simp] at R;have hs:=zh R;clear hf he R HS c0;go_wp2;go_roundw;case rel=>exact⟨j+1,by omega,by go_num,HT.out,hs.out⟩
     case measure=>simp[intOf];omega
  ·obtain rfl:j=n:=by omega
   have hS:=HS.out;have hc:=hh.out;rw[QN (by omega)] at hS hc;have hq:=zh hS;have ho:=zh hc;clear hS HS hh hc;go_wp2;go_returns;refine⟨⟨u4,by rw[ho.out];rfl,fun _=>own_words (base:=w.heap.size) ?_⟩,hq.out.1⟩;have e:(l.map wN).length=j:=by rw[QO,HN.out]
   rw[e];exact hq.out.2
def NoZero (xs:List Nat) (k:Nat):Prop:=∀ j,j<k->xs.getD j 1≠0
theorem noZero_step {xs:List Nat} {k:Nat} (h:NoZero xs k) (hk: ¬ xs.getD k 0=0):NoZero xs (k+1):=by
 intro j hj;by_cases e:j=k
 ·subst e;intro h';refine hk ?_;simp only[QU] at h' ⊢;cases hx:xs[j]? with
  | none=>rfl
  | some v=>rw[hx] at h';exact h'
 ·exact h j (by omega)
theorem noZero_end {xs:List Nat} {n:Nat} (h:NoZero xs n) (hn:xs.length=n):xs.contains 0=false:=by
 rw[QE];simp only[decide_eq_false_iff_not];intro hm;obtain⟨j,hj⟩:=List.mem_iff_getElem?.1 hm;have:j<xs.length:=(QL.1 hj).1;exact h j (by omega) (by simp[QU,hj])
theorem hasZero_of {xs:List Nat} {k n:Nat} (hk:k<n) (hn:xs.length=n) (h:xs.getD k 0=0):xs.contains 0=true:=by
 rw[QE];simp only[decide_eq_true_eq];simp only[QU] at h;cases hx:xs[k]? with
 | none=>rw[List.getElem?_eq_none_iff] at hx;omega
 | some v=>rw[hx] at h;simp at h;subst h;exact Q8 hx
def IdxSaysU (xs:List Nat) (e:Ending):Prop:=∃ r:Int,e=.returned (.int .i64 r)/\(decide (0<=r)=xs.contains 0)
theorem index_words (A:Option Addr) (n c B:Nat) (xs:List Nat) (w:World) (hr:Reads w B 1 A n (U xs)) (hm:n<=9223372036854775807) :
  Calls prog 321 #[.slice A n c,.int .u64 0] w fun e w'=>IdxSaysU xs e/\w=w':=by
 have hb:xs.length=n:=by have:=hr.1;simpa [U] using this
 by_cases h0:n=0
 ·subst h0;have hx:xs=[]:=by simpa using hb
  subst hx;clear hr hb hm;go_enter func321,ntmps321;go_wp2;refine wp_loop_rounds 1 ?_;rw[rounds_succ];go_wp2;go_ret;exact⟨⟨_,rfl,by decide⟩,rfl⟩
 ·obtain⟨b,off,rfl,_,hc⟩:=hr.2 (by omega);have ha:∀ k,k<n->w.cell? ⟨b,off+k,none⟩=some (.int .u64 ((xs.getD k 0:Nat):Int)):=fun k hk=>hc k _ (by simp[U,QU,QB (show k<xs.length by omega)]);have HC:=zh ha;have HL:=zh hb;clear hc hr ha hb h0;go_enter func321,ntmps321;go_wp2
  go_loop [8] (fun t=>∃ k:Nat,k<=n/\t=.int .i64 k/\NoZero xs k) (fun t=>n-(intOf t).toNat)
  case atStart=>exact⟨0,QA _,rfl,fun j hj=>by omega⟩
  case round =>
   obtain⟨k,hk,rfl,hd⟩:=hrel;by_cases hlt:k<n
   ·have ha:=HC.out k hlt;by_cases hv:xs.getD k 0=0
    ·rw[hv] at ha;have hh:=zh (hasZero_of hlt HL.out hv);clear hv;go_wp2;go_ret;exact⟨⟨_,rfl,by rw[hh.out];simp⟩,rfl⟩
    ·have he: ¬ ((xs.getD k 0:Nat):Int)=0:=by omega
     have hh:=noZero_step hd hv;obtain⟨z,hz⟩:=lt_ ((xs.getD k 0:Nat):Int);rw[hz] at ha he;clear hv hd hz;go_wp2;go_round;case rel=>exact⟨k+1,by omega,by go_num,hh⟩
     case measure=>simp[intOf];omega
   ·have hh:=zh (noZero_end hd (HL.out.trans (by omega)));clear hd;go_wp2;go_ret;exact⟨⟨_,rfl,by rw[hh.out];decide⟩,rfl⟩
theorem contains_words (A:Option Addr) (n c B:Nat) (xs:List Nat) (w:World) (hr:Reads w B 1 A n (U xs)) (hm:n<=9223372036854775807) :
  Calls prog 279 #[.slice A n c,.int .u64 0] w fun e w'=>e=.returned (.bool (xs.contains 0))/\w=w':=by
 go_enter func279,ntmps279;go_wp2_with fail;refine(index_words A n c B xs w hr hm).mono ?_;rintro e w1 ⟨⟨r,rfl,hx⟩,rfl⟩;have HX:=zh hx;clear hx hr hm;go_wp2;go_ret;exact⟨by rw[<- HX.out];rfl,rfl⟩
def gcdX (l:List Int):V:=if allW l then wholeX ((l.map wN).foldl Q9 0) false else errG 8
theorem gcd_word {a b:Nat} (ha:a<18446744073709551616) (hb:b<18446744073709551616):Q9 a b<18446744073709551616:=by
 rcases Nat.eq_zero_or_pos a with h|h
 ·subst h;rw[Nat.gcd_zero_left];exact hb
 ·exact Nat.lt_of_le_of_lt (Nat.gcd_le_left b h) ha
theorem wN_word (x:Int) (hx:Is64 x):wN x<18446744073709551616:=by
 have:=whole_64 x hx;unfold wN;omega
theorem nums_gcdOf (l:List Int) (hl:∀ x∈l,In63 x) (hn:l.length<=1000) (g c:Nat) (w:World) (h:AtB w g (I l)) (hg:g<w.heap.size) :
  Rt 201 #[.slice (some ⟨g,0,none⟩) l.length c] w (vG (gcdX l)):=by
 obtain⟨n,hm⟩:=lt_ l.length;have HC:=zh (fun (W:World) (hB:Below w.heap.size w W)=>nums_wholes l hl hn g c W (h.below hB) (QI hg hB.size));rw[hm] at HC hn ⊢;obtain⟨b,hb⟩:=lt_ (allW l);rw[hb] at HC;obtain⟨ws,hd⟩:=lt_ (l.map wN);rw[hd] at HC;have hs:ws.length=n:=by rw[<- hd,QO,hm]
 have ho:∀ u∈ws,u<18446744073709551616:=by
  intro u hu;rw[<- hd] at hu;obtain⟨x,hx,rfl⟩:=List.mem_map.1 hu;exact wN_word x (hl x hx).to64
 have hk:=zh ho;unfold gcdX;rw[hb,hd];clear hl h hd hb ho;cases b
 ·rw[if_neg (by decide)];go_enter func201,ntmps201;go_wp2_with(first|(go_at_call 277;refine(HC.out _ bel).mono ?_;rintro e w1 ⟨⟨r,rfl,hr⟩,hb⟩;obtain⟨l1,n1,rfl⟩:=zA0 hb;clear hb hr)|(go_at_call 13;refine mB (zA3 _ _) ?_;intro l2 n2))
  all_goals(go_returns;exact rb_)
 ·rw[if_pos rfl];obtain⟨R,hR⟩:=lt_ (wholeX (ws.foldl Q9 0) false);rw[hR];have HR:=zh hR;clear hR;go_enter func201,ntmps201;go_wp2_with fail
  go_at_call 277
  refine(HC.out _ bel).mono ?_;rintro e w1 ⟨⟨r,rfl,hr⟩,hb⟩;obtain⟨A,c2,rfl,hh⟩:=hr (by trivial);rw[hs] at hh ⊢;have hi:=zh hh;obtain⟨l1,n1,rfl⟩:=zA0 hb;clear hb hr hh;go_wp2
  go_loop [18,5] (fun t u=>∃ j:Nat,j<=n/\t=.int .i64 j/\u=.int .u64 (((ws.take j).foldl Q9 0:Nat):Int)/\(ws.take j).foldl Q9 0<18446744073709551616) (fun t _=>n-(intOf t).toNat)
  case atStart=>exact⟨0,QA _,rfl,rfl,by show (0:Nat)<_;decide⟩
  case round =>
   obtain⟨j,hj,rfl,rfl,hf⟩:=hrel;by_cases hlt:j<n
   ·obtain⟨b,off,rfl,_,hc⟩:=hi.out.2 (by omega);obtain⟨a,ha⟩:∃ a,ws[j]? =some a:=⟨_,QB (show j<ws.length by omega)⟩
    have c0:=hc j _ (show (U ws)[j]? =some (.int .u64 (a:Int)) by simp[U,ha]);have hlb:=cell_ltJ c0;have he:=hk.out a (Q8 ha);have e1:(ws.take (j+1)).foldl Q9 0=Q9 ((ws.take j).foldl Q9 0) a:=by rw[take1 ha];simp
    obtain⟨q,hq⟩:=lt_ ((ws.take j).foldl Q9 0);rw[hq] at e1 hf ⊢;have HQ:=zh (gcd_word hf he);have E1:=zh e1;have HF:=zh hf;have hp:=zh he;clear e1 hf he hc hq ha;go_wp2_with(go_at_call 278;refine(nums_gcd a q HF.out hp.out _).mono ?_;rintro e w2 ⟨rfl,rfl⟩)
    go_round;case rel=>exact⟨j+1,by omega,by go_num,by rw[E1.out],by rw[E1.out];exact HQ.out⟩
    case measure=>simp[intOf];omega
   ·obtain rfl:j=n:=by omega
    have hR:=HR.out;rw[QN (by omega)] at hf ⊢;obtain⟨q,hq⟩:=lt_ (ws.foldl Q9 0);rw[hq] at hf hR ⊢;subst hR;clear HR hq hi HC hk;go_wp2_with(go_at_call 273;refine mB (nums_whole q hf false _) ?_;intro l2 n2)
    all_goals(go_returns;exact rb_)
def lcmGo:List Nat->Nat->V
 | [],m=>wholeX m false
 | n::ns,m=>if 922337203685477<m*(n / Q9 m n) then errG 2 else lcmGo ns (m*(n / Q9 m n))
def lcmX (l:List Int):V:=if allW l then if (l.map wN).contains 0 then numG 0 else lcmGo (l.map wN) 1 else errG 8
theorem nums_lcmOf (l:List Int) (hl:∀ x∈l,In63 x) (hn:l.length<=1000) (g c:Nat) (w:World) (h:AtB w g (I l)) (hg:g<w.heap.size) :
  Rt 202 #[.slice (some ⟨g,0,none⟩) l.length c] w (vG (lcmX l)):=by
 obtain⟨n,hM⟩:=lt_ l.length;have HC:=zh (fun (W:World) (hB:Below w.heap.size w W)=>nums_wholes l hl hn g c W (h.below hB) (QI hg hB.size));rw[hM] at HC hn ⊢;obtain⟨b,hb⟩:=lt_ (allW l);rw[hb] at HC;obtain⟨ws,hs⟩:=lt_ (l.map wN);rw[hs] at HC;have Ha:ws.length=n:=by rw[<- hs,QO,hM]
 have hP:∀ u∈ws,u<18446744073709551616:=by
  intro u hu;rw[<- hs] at hu;obtain⟨x,hx,rfl⟩:=List.mem_map.1 hu;exact wN_word x (hl x hx).to64
 have hU:=zh hP;unfold lcmX;rw[hb,hs];clear hl h hs hb hP;cases b
 ·rw[if_neg (by decide)];go_enter func202,ntmps202;go_wp2_with(first|(go_at_call 277;refine(HC.out _ bel).mono ?_;rintro e w1 ⟨⟨r,rfl,hr⟩,hb⟩;obtain⟨l1,n1,rfl⟩:=zA0 hb;clear hb hr)|(go_at_call 13;refine mB (zA3 _ _) ?_;intro l2 n2))
  all_goals(go_returns;exact rb_)
 ·rw[if_pos rfl];obtain⟨R,hR⟩:=lt_ (if ws.contains 0 then numG 0 else lcmGo ws 1);rw[hR];have HR:=zh hR;clear hR;go_enter func202,ntmps202;go_wp2_with fail
  go_at_call 277
  refine(HC.out _ bel).mono ?_;rintro e w1 ⟨⟨r,rfl,hr⟩,hb⟩;obtain⟨A,c2,rfl,hF⟩:=hr (by trivial);rw[Ha] at hF ⊢;have hL:=zh hF;obtain⟨l1,n1,rfl⟩:=zA0 hb;clear hb hr hF;obtain⟨z,hz⟩:=lt_ (ws.contains 0);have HZ:=zh hz;have hA:=zh (fun W (hB:Below (more (w.alloc zObj) l1 n1).heap.size (more (w.alloc zObj) l1 n1) W)=>contains_words A n c2 _ ws W (hL.out.below hB) (by omega));rw[hz] at hA;have hR:=HR.out;rw[hz] at hR;clear hz HR;cases z
  ·rw[if_neg (by decide)] at hR;have hK:=zh hR;clear hR;go_wp2_with(go_at_call 279;refine(hA.out _ (Below.refl _ _)).mono ?_;rintro e w2 ⟨rfl,rfl⟩)
   go_loop [23,5] (fun t u=>∃ (j q:Nat),j<=n/\t=.int .i64 j/\u=.int .u64 (q:Int)/\1<=q/\q<=922337203685477/\lcmGo (ws.drop j) q=R) (fun t _=>n-(intOf t).toNat)
   case atStart=>exact⟨0,1,QA _,rfl,rfl,by omega,by omega,hK.out⟩
   case round =>
    obtain⟨j,q,hj,rfl,rfl,hO,hq2,hR⟩:=hrel;have hq:q<18446744073709551616:=by omega
    by_cases hlt:j<n
    obtain⟨b,off,rfl,_,hc⟩:=hL.out.2 (by omega);obtain⟨a,ha⟩:∃ a,ws[j]? =some a:=⟨_,QB (show j<ws.length by omega)⟩
    have c0:=hc j _ (show (U ws)[j]? =some (.int .u64 (a:Int)) by simp[U,ha]);have hlb:=cell_ltJ c0;have ht:=hU.out a (Q8 ha);have hC:a≠0:=by
     intro e;have h0:=HZ.out;rw[QE] at h0;simp only[decide_eq_false_iff_not] at h0;exact h0 (e ▸ Q8 ha)
    have hd:ws.drop j=a::ws.drop (j+1):=by
     obtain⟨hm,hv⟩:=QL.1 ha;rw[List.drop_eq_getElem_cons hm,hv]
    rw[hd] at hR;unfold lcmGo at hR;obtain⟨d,hi⟩:=lt_ (Q9 q a);have hW:0<d:=by rw[<- hi];exact Nat.gcd_pos_of_pos_left _ hO
    have hX:d<=a:=by rw[<- hi];exact Nat.gcd_le_right _ (by omega)
    obtain⟨e,hh⟩:=lt_ (a / d);have hw:1<=e:=by rw[<- hh];exact QV hX hW
    have hD:e<=a:=by rw[<- hh];exact QC _ _
    obtain⟨p,hp⟩:=lt_ (q*e);have hy:1<=p:=by rw[<- hp];exact QH hO hw
    rw[hi,hh,hp] at hR;obtain⟨p1,hf⟩:=lt_ (p / 18446744073709551616);obtain⟨p0,he⟩:=lt_ (p % 18446744073709551616);have hq':(a:Int) / (d:Int)=(e:Int):=by rw[<- hh];rfl
    have hZ:(a:Int).tdiv (d:Int)=(e:Int):=by rw[<- hh];rfl
    have hY:(d:Int)≠0:=by omega
    have hwe:Q5.wrap (e:Int)=e:=by rw[Q3];omega
    have HP:=zh hp;have hJ:=zh hf;have hI:=zh he;have HD:=zh hi;have HQ:=zh hq;have hG:=zh ht;have hH:=zh (show e<18446744073709551616 by omega);by_cases ho:922337203685477<p
    rw[if_pos ho] at hR;subst hR;by_cases ho1:0<p1
    have hk:(0:Int)<(p1:Int):=by omega
    clear hp hf he hi hh hC ha ht hd hc hw hD hy ho
    rotate_left
    have hk: ¬ (0:Int)<(p1:Int):=by omega
    have hE:(922337203685477:Int)<(p0:Int):=by omega
    clear hp hf he hi hh hC ha ht hd hc hw hD hy ho
    rotate_left
    ·rw[if_neg ho] at hR;have hk: ¬ (0:Int)<(p1:Int):=by omega
     have hE: ¬ (922337203685477:Int)<(p0:Int):=by omega
     have hN:p0=p:=by omega
     have hT:=zh hR;have hS:=zh hN;have HO:=zh (show p<=922337203685477 by omega);have hQ:=zh hy;clear hp hf he hi hh hC ha ht hd hc hw hD hy ho hR hN;go_wp2_with(first|(go_at_call 278;refine(nums_gcd a q HQ.out hG.out _).mono ?_;rw[HD.out];rintro e w2 ⟨rfl,rfl⟩)|(go_at_call 271;refine(Tryz.bits_Mul64 q e HQ.out hH.out _).mono ?_;rw[HP.out,hJ.out,hI.out];rintro e w1 ⟨rfl,rfl⟩))
     go_round;case rel=>exact⟨j+1,p,by omega,by go_num,by rw[hS.out],hQ.out,HO.out,hT.out⟩
     case measure=>simp[intOf];omega
    obtain rfl:j=n:=by omega
    rw[List.drop_of_length_le (by omega)] at hR;have hV:R=wholeX q false:=hR.symm;subst hV;clear hR hK;all_goals
     go_wp2_with(first|(go_at_call 278;refine(nums_gcd a q HQ.out hG.out _).mono ?_;rw[HD.out];rintro e w2 ⟨rfl,rfl⟩)|(go_at_call 271;refine(Tryz.bits_Mul64 q e HQ.out hH.out _).mono ?_;rw[HP.out,hJ.out,hI.out];rintro e w1 ⟨rfl,rfl⟩)|(go_at_call 13;refine mB (zA3 _ _) ?_;intro l2 n2)|(go_at_call 273;refine mB (nums_whole q hq false _) ?_;intro l2 n2))
     all_goals(go_returns;exact rb_)
  ·rw[if_pos rfl] at hR;subst hR;go_wp2_with(first|(go_at_call 279;refine(hA.out _ (Below.refl _ _)).mono ?_;rintro e w2 ⟨rfl,rfl⟩)|(go_at_call 140;refine mB (zB2 _ _) ?_;intro l2 n2))
   all_goals(go_returns;exact rb_)
def zB5 (f:Int->Int->Int×Int) (x y:Int):V:=if (zAF y).2 then numC (f x (zAF y).1) else errG 8
def truncP (x n:Int):Int×Int:=(truncX x n,0)
theorem trunc_below (x n:Int) (hx:In63 x) (hn:Is64 n) (w:World):Rt 190 #[.int .i64 x,.int .i64 n] w (.tuple #[.int .i64 (truncP x n).1,.int .i64 (truncP x n).2]) :=
 (nums_trunc x n hx hn w).mono fun e w' ⟨h1,h2⟩=>⟨h1,h2 ▸ Below.refl _ _⟩
theorem is64_nought:Is64 0:=⟨by decide,by decide⟩
theorem places_trunc1 (x:Int) (hx:In63 x) (p g c:Nat) (w:World) (hp:w.cell? ⟨p,0,none⟩=some (.func (.func 190) #[] #[])) (h0:w.cell? ⟨g,0,none⟩=some (.int .i64 x)) :
  Rt 269 #[.slice (some ⟨g,0,none⟩) 1 c,.pointer (some ⟨p,0,none⟩)] w (vG (numC (truncP x 0))):=by
 have hl:=cltK h0;have hpl:=cltK hp;have HX:=zh hx;clear hx;go_enter func269,ntmps269;go_wp2_with fail
 go_region_held3 (fun w'=>w'.cell? ⟨p,0,none⟩=some (.func (.func 190) #[] #[])/\w'.cell? ⟨g,0,none⟩=some (.int .i64 x))
  (first|(go_keep;done)|(go_split_ands;refine⟨?_,?_⟩<;>(repeat(first|assumption|with_reducible refine zAv ?_ _ _|with_reducible refine zAq ?_ _|with_reducible refine zB3 ?_))))
  (first|(go_at_call 190;refine mB (trunc_below x 0 HX.out is64_nought _) ?_;intro l1 n1)|(go_at_call 187;refine mB (zBm _ _ _) ?_;intro l2 n2))
 all_goals go_wp2;all_goals(go_returns;exact rb_)
theorem places_trunc2 (x y:Int) (hx:In63 x) (hy:Is64 y) (p g c:Nat) (w:World) (hp:w.cell? ⟨p,0,none⟩=some (.func (.func 190) #[] #[])) (h0:w.cell? ⟨g,0,none⟩=some (.int .i64 x)) (h1:w.cell? ⟨g,1,none⟩=some (.int .i64 y)) :
  Rt 269 #[.slice (some ⟨g,0,none⟩) 2 c,.pointer (some ⟨p,0,none⟩)] w (vG (zB5 truncP x y)):=by
 have hl:=cltK h0;have hpl:=cltK hp;have HX:=zh hx;have HW:=zh (show Is64 (zAF y).1 from (whole_63 y hy).to64);have HY:=zh hy;clear hx hy;unfold zB5;cases h:(zAF y).2
 ·rw[if_neg (by decide)];go_enter func269,ntmps269;go_wp2_with(first|(go_at_call 152;refine(zB0 y HY.out.1 HY.out.2 _).mono ?_;rintro e w1 ⟨rfl,rfl⟩)|(go_at_call 13;refine mB (zA3 _ _) ?_;intro l m))
  all_goals(go_returns;exact rb_)
 ·rw[if_pos rfl];go_enter func269,ntmps269;go_wp2_with(go_at_call 152;refine(zB0 y HY.out.1 HY.out.2 _).mono ?_;rintro e w1 ⟨rfl,rfl⟩)
  go_region_held3 (fun w'=>w'.cell? ⟨p,0,none⟩=some (.func (.func 190) #[] #[])/\w'.cell? ⟨g,0,none⟩=some (.int .i64 x))
   (first|(go_keep;done)|(go_split_ands;refine⟨?_,?_⟩<;>(repeat(first|assumption|with_reducible refine zAv ?_ _ _|with_reducible refine zAq ?_ _|with_reducible refine zB3 ?_))))
   (first|(go_at_call 190;refine mB (trunc_below x (zAF y).1 HX.out HW.out _) ?_;intro l1 n1)|(go_at_call 187;refine mB (zBm _ _ _) ?_;intro l2 n2))
  all_goals go_wp2;all_goals(go_returns;exact rb_)
theorem places_round1 (x:Int) (hx:In63 x) (p g c:Nat) (w:World) (hp:w.cell? ⟨p,0,none⟩=some (.func (.func 191) #[] #[])) (h0:w.cell? ⟨g,0,none⟩=some (.int .i64 x)) :
  Rt 269 #[.slice (some ⟨g,0,none⟩) 1 c,.pointer (some ⟨p,0,none⟩)] w (vG (numC (zBW x 0))):=by
 have hl:=cltK h0;have hpl:=cltK hp;have HX:=zh hx;clear hx;go_enter func269,ntmps269;go_wp2_with fail
 go_region_held3 (fun w'=>w'.cell? ⟨p,0,none⟩=some (.func (.func 191) #[] #[])/\w'.cell? ⟨g,0,none⟩=some (.int .i64 x))
  (first|(go_keep;done)|(go_split_ands;refine⟨?_,?_⟩<;>(repeat(first|assumption|with_reducible refine zAv ?_ _ _|with_reducible refine zAq ?_ _|with_reducible refine zB3 ?_))))
  (first|(go_at_call 191;refine mB (dec_Round x 0 HX.out.to64 is64_nought _) ?_;intro l1 n1)|(go_at_call 187;refine mB (zBm _ _ _) ?_;intro l2 n2))
 all_goals go_wp2;all_goals(go_returns;exact rb_)
theorem places_round2 (x y:Int) (hx:In63 x) (hy:Is64 y) (p g c:Nat) (w:World) (hp:w.cell? ⟨p,0,none⟩=some (.func (.func 191) #[] #[])) (h0:w.cell? ⟨g,0,none⟩=some (.int .i64 x)) (h1:w.cell? ⟨g,1,none⟩=some (.int .i64 y)) :
  Rt 269 #[.slice (some ⟨g,0,none⟩) 2 c,.pointer (some ⟨p,0,none⟩)] w (vG (zB5 zBW x y)):=by
 have hl:=cltK h0;have hpl:=cltK hp;have HX:=zh hx;have HW:=zh (show Is64 (zAF y).1 from (whole_63 y hy).to64);have HY:=zh hy;clear hx hy;unfold zB5;cases h:(zAF y).2
 ·rw[if_neg (by decide)];go_enter func269,ntmps269;go_wp2_with(first|(go_at_call 152;refine(zB0 y HY.out.1 HY.out.2 _).mono ?_;rintro e w1 ⟨rfl,rfl⟩)|(go_at_call 13;refine mB (zA3 _ _) ?_;intro l m))
  all_goals(go_returns;exact rb_)
 ·rw[if_pos rfl];go_enter func269,ntmps269;go_wp2_with(go_at_call 152;refine(zB0 y HY.out.1 HY.out.2 _).mono ?_;rintro e w1 ⟨rfl,rfl⟩)
  go_region_held3 (fun w'=>w'.cell? ⟨p,0,none⟩=some (.func (.func 191) #[] #[])/\w'.cell? ⟨g,0,none⟩=some (.int .i64 x))
   (first|(go_keep;done)|(go_split_ands;refine⟨?_,?_⟩<;>(repeat(first|assumption|with_reducible refine zAv ?_ _ _|with_reducible refine zAq ?_ _|with_reducible refine zB3 ?_))))
   (first|(go_at_call 191;refine mB (dec_Round x (zAF y).1 HX.out.to64 HW.out _) ?_;intro l1 n1)|(go_at_call 187;refine mB (zBm _ _ _) ?_;intro l2 n2))
  all_goals go_wp2;all_goals(go_returns;exact rb_)
theorem places_power2 (x y:Int) (hx:In63 x) (hy:Is64 y) (p g c:Nat) (w:World) (hp:w.cell? ⟨p,0,none⟩=some (.func (.func 198) #[] #[])) (h0:w.cell? ⟨g,0,none⟩=some (.int .i64 x)) (h1:w.cell? ⟨g,1,none⟩=some (.int .i64 y)) :
  Rt 269 #[.slice (some ⟨g,0,none⟩) 2 c,.pointer (some ⟨p,0,none⟩)] w (vG (zB5 powX x y)):=by
 have hl:=cltK h0;have hpl:=cltK hp;have HX:=zh hx;have HW:=zh (show Is64 (zAF y).1 from (whole_63 y hy).to64);have HY:=zh hy;clear hx hy;unfold zB5;cases h:(zAF y).2
 ·rw[if_neg (by decide)];go_enter func269,ntmps269;go_wp2_with(first|(go_at_call 152;refine(zB0 y HY.out.1 HY.out.2 _).mono ?_;rintro e w1 ⟨rfl,rfl⟩)|(go_at_call 13;refine mB (zA3 _ _) ?_;intro l m))
  all_goals(go_returns;exact rb_)
 ·rw[if_pos rfl];go_enter func269,ntmps269;go_wp2_with(go_at_call 152;refine(zB0 y HY.out.1 HY.out.2 _).mono ?_;rintro e w1 ⟨rfl,rfl⟩)
  go_region_held3 (fun w'=>w'.cell? ⟨p,0,none⟩=some (.func (.func 198) #[] #[])/\w'.cell? ⟨g,0,none⟩=some (.int .i64 x))
   (first|(go_keep;done)|(go_split_ands;refine⟨?_,?_⟩<;>(repeat(first|assumption|with_reducible refine zAv ?_ _ _|with_reducible refine zAq ?_ _|with_reducible refine zB3 ?_))))
   (first|(go_at_call 198;refine mB (dec_Power x (zAF y).1 HX.out.to64 HW.out _) ?_;intro l1 n1)|(go_at_call 187;refine mB (zBm _ _ _) ?_;intro l2 n2))
  all_goals go_wp2;all_goals(go_returns;exact rb_)
theorem mod_word {a b:Int} (ha:Is64 a) (hb:Is64 b) (h3: ¬ b=0):Is64 (a.tmod b):=by
 have h1:=QP a b;have h4:=QM a.natAbs (show 0<b.natAbs by omega);unfold Is64 at *;omega
theorem r1_Mod (a b:Int) (ha:Is64 a) (hb:Is64 b) (w:World):Calls prog 104 #[.int .i64 a,.int .i64 b] w fun e w'=>e=.returned (.tuple #[.int .i64 (modX a b).1,.int .i64 (modX a b).2])/\w'=w:=by
 by_cases h1:a=minI
 rw[show modX a b=(0,2) from if_pos (.inl h1)];have k1:decide ((-9223372036854775807:Int)<=a)=false:=decide_eq_false (by unfold minI at h1;omega);clear h1
 rotate_left
 have i1:=in63_of ha h1;have k1:decide ((-9223372036854775807:Int)<=a)=true:=decide_eq_true i1.1;by_cases h2:b=minI
 rw[show modX a b=(0,2) from if_pos (.inr h2)];have k2:decide ((-9223372036854775807:Int)<=b)=false:=decide_eq_false (by unfold minI at h2;omega);clear h1 h2
 rotate_left
 have i2:=in63_of hb h2;have k2:decide ((-9223372036854775807:Int)<=b)=true:=decide_eq_true i2.1;by_cases h3:b=0
 rw[show modX a b=(0,3) by unfold modX;rw[if_neg (by simp[h1,h2]),if_pos h3]];clear h1 h2
 rotate_left
 ·have e:modX a b=(if a.tmod b≠0/\decide (a.tmod b<0)≠decide (b<0) then a.tmod b+b else a.tmod b,0):=by unfold modX;rw[if_neg (by simp[h1,h2]),if_neg h3]
  have ht:=mod_word ha hb h3;have hw:wrap64 (a.tmod b)=a.tmod b:=by unfold Is64 at ht;unfold wrap64;omega
  obtain⟨t,et⟩:=lt_ (a.tmod b);rw[et] at e ht hw;rw[e];have HT:=zh ht;have w2: ¬ (t<0)=(b<0)->Q7.wrap (t+b)=t+b:=by
   intro hc;have hc': ¬ ((t<0) ↔ (b<0)):=fun e=>hc (propext e);unfold Is64 at ht hb;rw[Q4];omega
  clear e h1 h2 i1 i2 ha hb ht;by_cases c0:t=0
  ·rw[if_neg (fun h=>h.1 c0)];go_enter func104,ntmps104;go_wp2_with(go_at_call 95;refine(zAL _ _).mono ?_;rintro e w1 ⟨rfl,rfl⟩)
   all_goals go_returns;all_goals refine⟨?_,rfl⟩;all_goals simp_all;all_goals omega
  ·by_cases c1:t<0<;>by_cases c2:b<0
   ·rw[if_neg (by simp[c1,c2])];go_enter func104,ntmps104;go_wp2_with(go_at_call 95;refine(zAL _ _).mono ?_;rintro e w1 ⟨rfl,rfl⟩)
    all_goals go_returns;all_goals refine⟨?_,rfl⟩;all_goals simp_all;all_goals omega
   ·rw[if_pos ⟨c0,by simp[c1,c2]⟩];have w3:=w2 (by simp[c1,c2]);clear w2;go_enter func104,ntmps104;go_wp2_with(go_at_call 95;refine(zAL _ _).mono ?_;rintro e w1 ⟨rfl,rfl⟩)
    all_goals go_returns;all_goals refine⟨?_,rfl⟩;all_goals simp_all;all_goals omega
   ·rw[if_pos ⟨c0,by simp[c1,c2]⟩];have w3:=w2 (by simp[c1,c2]);clear w2;go_enter func104,ntmps104;go_wp2_with(go_at_call 95;refine(zAL _ _).mono ?_;rintro e w1 ⟨rfl,rfl⟩)
    all_goals go_returns;all_goals refine⟨?_,rfl⟩;all_goals simp_all;all_goals omega
   ·rw[if_neg (by simp[c1,c2])];go_enter func104,ntmps104;go_wp2_with(go_at_call 95;refine(zAL _ _).mono ?_;rintro e w1 ⟨rfl,rfl⟩)
    all_goals go_returns;all_goals refine⟨?_,rfl⟩;all_goals simp_all;all_goals omega
 all_goals
  go_enter func104,ntmps104;go_wp2_with(go_at_call 95;refine(zAL _ _).mono ?_;rintro e w1 ⟨rfl,rfl⟩)
  go_returns;exact⟨rfl,rfl⟩
theorem r1_Floor (x:Int) (hx:Is64 x) (w:World):Calls prog 97 #[.int .i64 x] w fun e w'=>e=.returned (.tuple #[.int .i64 (floorX x).1,.int .i64 (floorX x).2])/\w'=w:=by
 by_cases h1:x=minI
 ·rw[show floorX x=(0,2) by unfold floorX;rw[show modX x 10000=(0,2) from if_pos (.inl h1)];rfl];have k1:decide ((-9223372036854775807:Int)<=x)=false:=decide_eq_false (by unfold minI at h1;omega);clear h1;go_enter func97,ntmps97;go_wp2_with(go_at_call 95;refine(zAL _ _).mono ?_;rintro e w1 ⟨rfl,rfl⟩)
  go_returns;exact⟨rfl,rfl⟩
 have i1:=in63_of hx h1;have k1:decide ((-9223372036854775807:Int)<=x)=true:=decide_eq_true i1.1;have ht:=mod_word hx (show Is64 10000 by unfold Is64;decide) (by decide);have hb: -10000<x.tmod 10000/\x.tmod 10000<10000:=by
  have e1:=QP x 10000;have e2:=QM x.natAbs (show 0<(10000:Int).natAbs by decide);have e3:(10000:Int).natAbs=10000:=rfl;omega
 have hw:wrap64 (x.tmod 10000)=x.tmod 10000:=by unfold Is64 at ht;unfold wrap64;omega
 have e:floorX x=subX x (if x.tmod 10000<0 then x.tmod 10000+10000 else x.tmod 10000):=by
  have e1:modX x 10000=(if x.tmod 10000<0 then x.tmod 10000+10000 else x.tmod 10000,0):=by
   unfold modX;rw[if_neg (by unfold minI at *;omega),if_neg (by decide)];by_cases hn:x.tmod 10000<0
   ·rw[if_pos hn,if_pos ⟨by omega,by simp[hn]⟩]
   ·rw[if_neg hn,if_neg (by simp[hn])]
  unfold floorX;rw[e1,if_neg (by simp)]
 obtain⟨t,et⟩:=lt_ (x.tmod 10000);rw[et] at e ht hw hb;have w2:Q7.wrap (t+10000)=t+10000:=by rw[Q4];omega
 rw[e];by_cases c:t<0
 rw[if_pos c];have HS:=zh (r1_Sub x (t+10000) hx (by unfold Is64;omega))
 rotate_left
 rw[if_neg c];have HS:=zh (r1_Sub x t hx (by unfold Is64;omega));all_goals
  clear e h1 i1 hx ht hb;go_enter func97,ntmps97;go_wp2_with(first|(go_at_call 95;refine(zAL _ _).mono ?_;rintro e w1 ⟨rfl,rfl⟩)|(go_at_call 155;refine(HS.out _).mono ?_;rintro e w1 ⟨rfl,rfl⟩))
  all_goals(go_returns;exact⟨rfl,rfl⟩)
theorem up_half {n u:Nat} (hu:u % 2=0):(u / 2<=n % u)=(u-n % u<=n % u):=by
 apply propext;omega
theorem round_of {n u:Nat} (low:Bool) (h0:0<u):roundN n u low=if 9223372036854775807 / u<upN n u then (0,2) else signX (upN n u*u) low:=by
 have h1:9223372036854775807 / u<upN n u ↔ 9223372036854775807<upN n u*u:=QR h0;unfold roundN signX;by_cases h:9223372036854775807 / u<upN n u
 ·rw[if_pos h];have h2:=h1.1 h;by_cases h3:18446744073709551616<=upN n u*u
  ·rw[if_pos h3]
  ·rw[if_neg h3,if_pos h2]
 ·rw[if_neg h];have h2: ¬ 9223372036854775807<upN n u*u:=fun e=>h (h1.2 e);rw[if_neg (by omega)]
theorem pow10_even (j:Nat) (h:1<=j):10 ^ j % 2=0:=by
 obtain⟨i,rfl⟩:∃ i,j=i+1:=⟨j-1,by omega⟩
 rw[QG];omega
theorem r1_Round (x p:Int) (hx:Is64 x) (hn:Is64 p) (w:World):Calls prog 101 #[.int .i64 x,.int .i64 p] w fun e w'=>e=.returned (.tuple #[.int .i64 (zBW x p).1,.int .i64 (zBW x p).2])/\w'=w:=by
 unfold zBW;by_cases h0:x=minI
 rw[if_pos h0];have k1:decide ((-9223372036854775807:Int)<=x)=false:=decide_eq_false (by unfold minI at h0;omega)
 rotate_left
 rw[if_neg h0];have i1:=in63_of hx h0;have k1:decide ((-9223372036854775807:Int)<=x)=true:=decide_eq_true i1.1;by_cases h1:4<=p
 rw[if_pos h1]
 rotate_left
 rw[if_neg h1];by_cases h2:p< -15
 rw[if_pos h2]
 rotate_left
 ·rw[if_neg h2];obtain⟨m,hm⟩:=lt_ ((4-p).toNat);have hp:p=4-(m:Int):=by omega
  have he:m<=19:=by omega
  have ht:1<=m:=by omega
  rw[hm];have HZ:=zh (r1_size x hx);obtain⟨n,hi⟩:=lt_ x.natAbs;have hA:n<=9223372036854775808:=by unfold Is64 at hx;omega
  obtain⟨y,hy⟩:=lt_ (lowX x);rw[hi,hy] at HZ ⊢;rw[round_of y (QQ (by decide))];obtain⟨R,hR⟩:=lt_ ((if 9223372036854775807 / 10 ^ m<upN n (10 ^ m) then ((0,2):Int×Int) else signX (upN n (10 ^ m)*10 ^ m) y));rw[hR];have HR:=zh hR;subst hp;clear hn hm hx h0 hi hR hy i1 h2;go_enter func101,ntmps101;go_wp2_with(go_at_call 95;refine(zAL _ _).mono ?_;rintro e w1 ⟨rfl,rfl⟩)
  go_loop [7,6] (fun t u=>∃ j:Nat,j<=m/\t=.int .i64 (4-(j:Int))/\u=.int .u64 ((10 ^ j:Nat):Int)) (fun t _=>(intOf t+m-4).toNat)
  case atStart=>exact⟨0,QA _,rfl,rfl⟩
  case round =>
   obtain⟨j,hj,rfl,rfl⟩:=hrel;by_cases hlt:j<m
   ·have hp:=pow10_lt19 (j+1) (by omega);have hs:(10:Nat) ^ (j+1)=10 ^ j*10:=QG _ _;obtain⟨v,hv⟩:=lt_ ((10:Nat) ^ j);rw[hs,hv] at hp;have hw:Q5.wrap (10*(v:Int))=((v*10:Nat):Int):=by rw[Q3];omega
    have hk:Q7.wrap (4-(j:Int)-1)=4-((j+1:Nat):Int):=by rw[Q4];omega
    have hc:4-(m:Int)<4-(j:Int):=by omega
    rw[hv];go_wp2;go_round;case rel=>exact⟨j+1,by omega,by first|rfl|(simp only[hk];done)|go_num|(congr 1;omega),by rw[hs,hv];first|rfl|(rw[hw];done)|go_num⟩
    case measure=>simp[intOf];omega
   obtain rfl:j=m:=by omega
   have hp:=pow10_lt19 j he;have hg:0<10 ^ j:=QQ (by decide);have hh:=pow10_even j ht;obtain⟨u,hu⟩:=lt_ ((10:Nat) ^ j);rw[hu] at hp hg hh ⊢;have hR:=HR.out;rw[hu] at hR;have hne:(u:Int)≠0:=by omega
   have ha:upN n u=if u / 2<=n % u then n / u+1 else n / u:=by unfold upN;simp only[up_half hh]
   obtain⟨q,hq⟩:=lt_ (n / u);obtain⟨r,hr⟩:=lt_ (n % u);obtain⟨z,hz⟩:=lt_ (9223372036854775807 / u);obtain⟨v,hv⟩:=lt_ (u / 2);have hq2:(n:Int).tdiv (u:Int)=(q:Int):=by rw[<- hq];rfl
   have hr2:(n:Int).tmod (u:Int)=(r:Int):=by rw[<- hr];rfl
   have hz2:(9223372036854775807:Int).tdiv (u:Int)=(z:Int):=by rw[<- hz];rfl
   have hv2:(u:Int).tdiv 2=(v:Int):=by rw[<- hv];rfl
   have hq1:(n:Int) / (u:Int)=(q:Int):=by rw[<- hq];rfl
   have hr1:(n:Int) % (u:Int)=(r:Int):=by rw[<- hr];rfl
   have hz1:(9223372036854775807:Int) / (u:Int)=(z:Int):=by rw[<- hz];rfl
   have hv1:(u:Int) / 2=(v:Int):=by rw[<- hv];rfl
   have hqn:q<=n:=by rw[<- hq];exact QC _ _
   have hru:r<u:=by rw[<- hr];exact QM _ hg
   have hzn:z<=9223372036854775807:=by rw[<- hz];exact QC _ _
   have hk:Q5.wrap (q:Int)=q:=by rw[Q3];omega
   have hw2:Q5.wrap (r:Int)=r:=by rw[Q3];omega
   have hw3:Q5.wrap ((q:Int)+1)=((q+1:Nat):Int):=by rw[Q3];omega
   have hw4:Q5.wrap (z:Int)=z:=by rw[Q3];omega
   have hw5:Q5.wrap (v:Int)=v:=by rw[Q3];omega
   rw[hq,hr,hv] at ha;have hb:=QR (x:=9223372036854775807) (y:=upN n u) hg;rw[hz] at hR hb;clear hp HR hq hr hz hv hu hh;by_cases hc:v<=r
   rw[if_pos hc] at ha;have ho:(v:Int)<=(r:Int):=by omega
   rw[ha] at hR hb;by_cases hov:z<q+1
   rw[if_pos hov] at hR;have hf:(z:Int)<((q+1:Nat):Int):=by omega
   subst hR;clear hb ha
   rotate_left
   rw[if_neg hov] at hR;have hf: ¬ (z:Int)<((q+1:Nat):Int):=by omega
   have hd:(q+1)*u<=9223372036854775807:=by have:=mt hb.2 hov;omega
   obtain⟨s,hs⟩:=lt_ ((q+1)*u);rw[hs] at hR hd;have HG:=zh (zBJ s (by omega) y);rw[hR] at HG;have hl:Q5.wrap (((q+1:Nat):Int)*(u:Int))=(s:Int):=by rw[Q3,<-Int.natCast_mul,hs];omega
   have hwn:Q5.wrap (((q:Int)+1)*(u:Int))=(s:Int):=by rw[<- hl];rfl
   clear hb ha hd hs
   rotate_left
   rw[if_neg hc] at ha;have ho: ¬ (v:Int)<=(r:Int):=by omega
   rw[ha] at hR hb;by_cases hov:z<q
   rw[if_pos hov] at hR;have hf:(z:Int)<(q:Int):=by omega
   subst hR;clear hb ha
   rotate_left
   rw[if_neg hov] at hR;have hf: ¬ (z:Int)<(q:Int):=by omega
   have hd:q*u<=9223372036854775807:=by have:=mt hb.2 hov;omega
   obtain⟨s,hs⟩:=lt_ (q*u);rw[hs] at hR hd;have HG:=zh (zBJ s (by omega) y);rw[hR] at HG;have hl:Q5.wrap ((q:Int)*(u:Int))=(s:Int):=by rw[Q3,<-Int.natCast_mul,hs];omega
   clear hb ha hd hs;all_goals
    go_wp2_with(first|(go_at_call 159;refine(HZ.out _).mono ?_;rintro e w1 ⟨rfl,rfl⟩)|(go_at_call 160;refine(HG.out _).mono ?_;rintro e w1 ⟨rfl,rfl⟩))
    all_goals(go_returns;exact⟨rfl,rfl⟩)
 all_goals
  clear h0;go_enter func101,ntmps101;go_wp2_with(go_at_call 95;refine(zAL _ _).mono ?_;rintro e w1 ⟨rfl,rfl⟩)
  go_returns;exact⟨rfl,rfl⟩
theorem bit_pow (j:Nat) (h:j<=40):bitN j=2 ^ (40-j):=by
 unfold bitN;rw[show (1099511627776:Nat)=2 ^ 40 from rfl,Nat.pow_div h (by decide)]
theorem sq_inv (N:Nat) (hN:N<2 ^ 41*2 ^ 41):∀ j,j<=41->sqN N j*sqN N j<=N/\N<(sqN N j+2 ^ (41-j))*(sqN N j+2 ^ (41-j))
 | 0,_=>⟨QA _,by simpa [sqN] using hN⟩
 | j+1,h=>by
   obtain⟨h1,h2⟩:=sq_inv N hN j (by omega);have e1:=bit_pow j (by omega);have e2:2 ^ (41-j)=2 ^ (40-j)+2 ^ (40-j):=by rw[show 41-j=(40-j)+1 by omega,QG];omega
   have e3:41-(j+1)=40-j:=by omega
   rw[e3];unfold sqN;rw[e1];by_cases hc:(sqN N j+2 ^ (40-j))*(sqN N j+2 ^ (40-j))<=N
   ·rw[if_pos hc];refine⟨hc,?_⟩;rw[e2,<-Nat.add_assoc] at h2;exact h2
   ·rw[if_neg hc];exact⟨h1,by omega⟩
theorem sq_same {N s t:Nat} (h1:s*s<=N) (h2:N<(s+1)*(s+1)) (h3:t*t<=N) (h4:N<(t+1)*(t+1)):s=t:=by
 have a: ¬ s<t:=fun h=>by
  have:=QH (show s+1<=t from h) (show s+1<=t from h);omega
 have b: ¬ t<s:=fun h=>by
  have:=QH (show t+1<=s from h) (show t+1<=s from h);omega
 omega
theorem sq_root {N s:Nat} (hN:N<2 ^ 41*2 ^ 41) (h1:s*s<=N) (h2:N<(s+1)*(s+1)):s=sqN N 41:=by
 obtain⟨h3,h4⟩:=sq_inv N hN 41 (QJ _);exact sq_same h1 h2 h3 h4
theorem row_new2 (w:World) (x y:Nat) (t:TypeId):Row (w.alloc (.cells #[.int .i64 ((x:Nat):Int),.int .i64 ((y:Nat):Int)] t)) (.slice (some ⟨w.heap.size,0,none⟩) 2 2) [x,y]:=by
 refine row_of_at (l:=[x,y]) (n:=2) (c:=2) ?_ rfl (QJ _) (by simp);exact AtB.new (w:=w) (cs:=#[.int .i64 ((x:Nat):Int),.int .i64 ((y:Nat):Int)]) (t:=t) rfl
theorem digs_40000:digs 40000=[0,4]:=by
 rw[digs_pos (by decide),digs_small (by decide) (by decide)]
theorem wu_sub {hi lo d:Nat} (hd:hi-lo=d) (h:lo<hi) (h2:hi<=1099511627776):Q5.wrap ((hi:Int)-(lo:Int))=(d:Int):=by rw[Q3];omega
theorem wu_add {x y z:Nat} (hz:x+y=z) (h:z<18446744073709551616):Q5.wrap ((x:Int)+(y:Int))=(z:Int):=by
 rw[<- Int.natCast_add,hz,zAH h]
theorem r1_Sqrt (x:Int) (hx:Is64 x) (w:World):Rt 98 #[.int .i64 x] w (.tuple #[.int .i64 (sqrtX x).1,.int .i64 (sqrtX x).2]):=by
 unfold sqrtX;by_cases h0:x=minI
 rw[if_pos h0];have k1:decide ((-9223372036854775807:Int)<=x)=false:=decide_eq_false (by unfold minI at h0;omega)
 rotate_left
 rw[if_neg h0];have i1:=in63_of hx h0;have k1:decide ((-9223372036854775807:Int)<=x)=true:=decide_eq_true i1.1;by_cases h1:x<0
 rw[if_pos h1]
 rotate_left
 ·rw[if_neg h1];obtain⟨n,rfl⟩:∃ n:Nat,x=(n:Int):=⟨x.toNat,by omega⟩
  rw[QK];have hn:n<=9223372036854775807:=by unfold In63 at i1;omega
  have hN:n*40000<2 ^ 41*2 ^ 41:=by omega
  have ha:n*40000<1099511627776*1099511627776:=by omega
  have HS:=zh (fun s=> @sq_root (n*40000) s hN);have ln:n<18446744073709551616:=by omega
  have hy:=zh (fun w2=>r1_great n ln w2);have hF:(digs n).length<=5:=zB6 5 n (by omega);have hl:=zh (fun v v2 w2 h (h2:Row w2 v2 [0,4])=>r1_product n 40000 v v2 (by omega) (by rw[digs_40000];decide) w2 h (by rw[digs_40000];exact h2));have he:(digs (n*40000)).length<=7:=zB6 7 _ (by omega);have hC:=zh (fun (b:World) t=>row_new2 b 0 4 t);have hj:=zh (fun (b:World) o=>(show Below b.heap.size b (b.alloc o) from bel));have wn:=zAH ln;obtain⟨N,hp⟩:=lt_ (n*40000);rw[hp] at ha HS hl he ⊢;have hA:=zh he;have HN:=zh ha;obtain⟨q,hq⟩:=lt_ (sqN N 41);rw[hq] at HS ⊢;clear h0 i1 hx hn hN ha ln hF he hp hq;go_enter func98,ntmps98;go_wp2_with(first
   | (go_at_call 95;refine(zAL _ _).mono ?_;rintro e w1 ⟨rfl,rfl⟩)
   | (go_at_call 157;refine(hy.out _).mono ?_;rintro e w1 ⟨v1,rfl,hv,b1⟩)
   | (go_at_call 156;refine(hl.out _ _ _ (hv.below (hj.out _ _)) (hC.out _ _)).mono ?_;rintro e w2 ⟨v2,rfl,hw,b2⟩;have c2:=(b1.trans ((hj.out w1 (.cells #[.int .i64 0,.int .i64 4] 3)).mono b1.size)).trans (b2.mono (by have:=b1.size;simp;omega))))
  have hD:=zh hw;have hk:=zh c2;clear hv b1 b2 hw c2 wn
  go_loopw [5,6] (fun t u wr=>∃ lo hi:Nat,lo<hi/\hi<=1099511627776/\t=.int .u64 (lo:Int)/\u=.int .u64 (hi:Int)/\RowKit.Hid (lo*lo<=N/\N<hi*hi)/\Below w2.heap.size w2 wr) (fun t u _=>(intOf u-intOf t).toNat)
  case atStart=>exact⟨0,1099511627776,by decide,by decide,rfl,rfl,zh ⟨QA _,HN.out⟩,bel⟩
  case round =>
   obtain⟨lo,hi,hr,hh,rfl,rfl,hI,hB⟩:=hrel;obtain⟨d,hd⟩:=lt_ (hi-lo);by_cases h1:d<=1
   ·have hE: ¬ (1:Int)<(d:Int):=by omega
    have e:lo=q:=HS.out lo hI.out.1 (by rw[show lo+1=hi by omega];exact hI.out.2);obtain⟨z,hz⟩:=lt_ ((lo+1) / 2);have hz2:((lo+1:Nat):Int).tdiv 2=(z:Int):=zAt hz;have lz:z<1000000000000000:=by omega
    have lz1:z<18446744073709551616:=by omega
    have ll:lo+1<18446744073709551616:=by omega
    subst e;have HZ:=zh hz;have wd:=wu_sub hd hr hh;have w3:Q5.wrap ((lo:Int)+1)=((lo+1:Nat):Int):=zAH ll;have w4:=zAH lz1;have w5:Q7.wrap (z:Int)=(z:Int):=by clear wd w3 w4;rw[Q4];omega
    clear hd hz;have HB:=zh hB;go_wp2;go_returns;exact⟨rfl,hk.out.trans (HB.out.mono hk.out.size)⟩
   ·have hE:(1:Int)<(d:Int):=by omega
    obtain⟨s,hs⟩:=lt_ (lo+hi);obtain⟨m,hm⟩:=lt_ (s / 2);have lm1:lo<m:=by omega
    have lm2:m<hi:=by omega
    have lm3:m<=1099511627776:=by omega
    have ls:s<18446744073709551616:=by omega
    have lm:m<18446744073709551616:=by omega
    have HG:=zh (fun w=>r1_great m lm w);have ht:(digs m).length<=4:=zB6 4 m (by omega);have ho:=zh (fun v w2 h=>r1_product m m v v (by omega) (by omega) w2 h h);have hu:(digs (m*m)).length<=8:=by
     have h3:=val_lt (digs m) (zAs m);rw[zAl] at h3;have h4:10000 ^ (digs m).length<=10000 ^ 4:=QD (by decide) ht;have h5:m<10000 ^ 4:=QI h3 h4;have h6:m*m<10000 ^ 4*10000 ^ 4:=Nat.mul_lt_mul'' h5 h5;exact zB6 8 _ (by rw[show 8=4+4 from rfl,Nat.pow_add];exact h6)
    have HL:=zh (fun v w3 h hb=>r1_below N (m*m) v2 v (QT hA.out (by decide)) (QT hu (by decide)) w3 (hD.out.below (w':=w3) hb) h);have m2:(s:Int).tdiv 2=(m:Int):=zAt hm;have wd:=wu_sub hd hr hh;have ws:=wu_add hs ls;have wm:=zAH lm;have HB:=zh hB;clear ht hu hs hm ls lm hd hB;by_cases hc:N<m*m
    ·rw[decide_eq_true hc] at HL;go_wp2_with(first|(go_at_call 157;refine(HG.out _).mono ?_;rintro e w3 ⟨v3,rfl,hf,b3⟩;have c3:=HB.out.trans (b3.mono HB.out.size))|(go_at_call 156;refine(ho.out _ _ hf).mono ?_;rintro e w4 ⟨v4,rfl,hg,b4⟩;have c4:=c3.trans (b4.mono c3.size))|(go_at_call 158;refine(HL.out _ _ hg c4).mono ?_;rintro e w5 ⟨rfl,b5⟩;have c5:=c4.trans (b5.mono c4.size)))
     clear wd ws wm;exact⟨⟨lo,m,lm1,lm3,rfl,rfl,zh ⟨hI.out.1,hc⟩,c5⟩,by simp[intOf]<;>omega⟩
    ·rw[decide_eq_false hc] at HL;go_wp2_with(first|(go_at_call 157;refine(HG.out _).mono ?_;rintro e w3 ⟨v3,rfl,hf,b3⟩;have c3:=HB.out.trans (b3.mono HB.out.size))|(go_at_call 156;refine(ho.out _ _ hf).mono ?_;rintro e w4 ⟨v4,rfl,hg,b4⟩;have c4:=c3.trans (b4.mono c3.size))|(go_at_call 158;refine(HL.out _ _ hg c4).mono ?_;rintro e w5 ⟨rfl,b5⟩;have c5:=c4.trans (b5.mono c4.size)))
     clear wd ws wm;exact⟨⟨m,hi,lm2,hh,rfl,rfl,zh ⟨Nat.le_of_not_lt hc,hI.out.2⟩,c5⟩,by simp[intOf]<;>omega⟩
 all_goals
  clear h0;go_enter func98,ntmps98;go_wp2_with(go_at_call 95;refine(zAL _ _).mono ?_;rintro e w1 ⟨rfl,rfl⟩)
  go_returns;exact rb_
theorem r8_told (x c:Int) (hx:Is64 x) (w:World):Rt 96 #[.int .i64 x,.int .i64 c] w (vG (numC (x,c))):=by
 have HN:=zh (zAw x hx);by_cases hc:c=0
 ·rw[show numC (x,c)=numG x from if_neg (fun h=>h hc)];subst hc;clear hx;go_enter func96,ntmps96;go_wp2_with(go_at_call 39;refine mB (HN.out _) ?_;intro l n)
  all_goals(go_returns;exact rb_)
 ·rw[show numC (x,c)=errG c from if_pos hc];clear hx;go_enter func96,ntmps96;go_wp2_with(go_at_call 22;refine mB (zA6 _ _) ?_;intro l n)
  all_goals(go_returns;exact rb_)
theorem r8_size (x:Int) (h:Is64 x) (w:World):Calls prog 93 #[.int .i64 x] w fun e w'=>e=.returned (.int .u64 ((x.natAbs:Nat):Int))/\w'=w:=by
 unfold Is64 at h;go_enter func93,ntmps93;go_wp2
 ·have e2:Q5.wrap (wrap64 (-x))=(x.natAbs:Int):=by rw[Q3];unfold wrap64;omega
  go_ret;exact⟨by rw[<- e2];rfl,rfl⟩
 ·have e:(x.natAbs:Int)=x:=by omega
  rw[e];go_ret;exact⟨rfl,rfl⟩
theorem r8_whole (n:Nat) (hn:n<18446744073709551616) (low:Bool) (w:World):Rt 94 #[.int .u64 (n:Nat),.bool low] w (vG (wholeX n low)):=by
 unfold wholeX;by_cases h:922337203685477<n
 ·have h':(922337203685477:Int)<n:=by omega
  rw[if_pos h];clear hn;go_enter func94,ntmps94;go_wp2_with(go_at_call 22;refine mB (zA6 _ _) ?_;intro l m)
  all_goals(go_returns;exact rb_)
 ·have h': ¬ (922337203685477:Int)<n:=by omega
  have HP:=zh (zAw ((n:Int)*10000) (by unfold Is64;omega));have HM:=zh (zAw (-((n:Int)*10000)) (by unfold Is64;omega));have h1:Q7.wrap (n:Int)=n:=by rw[Q4];omega
  have h2:Q7.wrap ((n:Int)*10000)=(n:Int)*10000:=by rw[Q4];omega
  have h3:Q7.wrap (-(n:Int))= -(n:Int):=by rw[Q4];omega
  have h4:Q7.wrap (-(n:Int)*10000)= -((n:Int)*10000):=by rw[Q4];omega
  have h5: -(n:Int)*10000= -((n:Int)*10000):=Int.neg_mul _ _;rw[if_neg h];clear hn;cases low
  ·rw[if_neg (by decide)];go_enter func94,ntmps94;go_wp2_with(go_at_call 39;refine mB (HP.out _) ?_;intro l m)
   all_goals(go_returns;exact rb_)
  ·rw[if_pos rfl];go_enter func94,ntmps94;go_wp2_with(go_at_call 39;refine mB (HM.out _) ?_;intro l m)
   all_goals(go_returns;exact rb_)
theorem r8_floor (x s:Int) (hx:Is64 x) (hs:Is64 s) (hm: ¬ x=minI) (hms: ¬ s=minI) (w:World):Calls prog 103 #[.int .i64 x,.int .i64 s] w fun e w'=>e=.returned (.tuple #[.int .i64 (zAn x s).1,.int .i64 (zAn x s).2])/\w'=w:=by
 by_cases h0:s<=0
 ·rw[show zAn x s=(0,8) from if_pos h0];clear hx hs hm hms;go_enter func103,ntmps103;go_wp2
  go_ret2
  exact⟨rfl,rfl⟩
 ·have hc:(modX x s).2=0:=by
   unfold modX;rw[if_neg (fun h=>h.elim hm hms),if_neg (by omega)]
  have e:zAn x s=subX x (modX x s).1:=by unfold zAn;rw[if_neg h0,if_neg (fun h=>h hc)]
  have HM:=zh (r1_Mod x s hx hs);have HS:=zh (r1_Sub x (modX x s).1 hx (modX_64 x s hx hs));rw[e];clear hx hs hm hms hc e;go_enter func103,ntmps103;go_wp2_with(first|(go_at_call 104;refine(HM.out _).mono ?_;rintro e w1 ⟨rfl,rfl⟩)|(go_at_call 155;refine(HS.out _).mono ?_;rintro e w1 ⟨rfl,rfl⟩))
  go_ret2
  exact⟨rfl,rfl⟩
theorem r8_gcd (a b:Nat) (ha:a<18446744073709551616) (hb:b<18446744073709551616) (w:World):Calls prog 92 #[.int .u64 (a:Int),.int .u64 (b:Int)] w fun e w'=>e=.returned (.int .u64 ((Q9 a b:Nat):Int))/\w'=w:=by
 obtain⟨g,hg⟩:=lt_ (Q9 a b);rw[hg];have HG:=zh hg;clear hg;go_enter func92,ntmps92;go_wp2
 go_loop [0,1] (fun s t=>∃ x y:Nat,s=.int .u64 (x:Int)/\t=.int .u64 (y:Int)/\x<18446744073709551616/\y<18446744073709551616/\RowKit.Hid (Q9 x y=g)) (fun _ t=>(intOf t).toNat)
 case atStart=>exact⟨a,b,rfl,rfl,ha,hb,HG⟩
 case round =>
  obtain⟨x,y,rfl,rfl,hx,hy,hc⟩:=hrel;by_cases h0:y=0
  ·subst h0;have e:x=g:=by have:=hc.out;rwa[Nat.gcd_zero_right] at this
   subst e;clear hc HG;go_wp2;go_ret;exact⟨rfl,rfl⟩
  ·obtain⟨r,hr⟩:=lt_ (x % y);have hd:r<y:=by rw[<- hr];exact QM _ (by omega)
   have e1:=tmod_nat hr;have e2:(x:Int) % (y:Int)=(r:Int):=by rw[<- hr];rfl
   have e3:Q5.wrap (r:Int)=(r:Int):=zAH (by omega);have hne: ¬ (y:Int)=0:=by omega
   have he:(0:Int)<(y:Int):=by omega
   have HX:=zh (show Q9 y r=g by rw[<- hc.out,<-hr,Nat.gcd_comm y (x % y),<-Nat.gcd_rec,Nat.gcd_comm]);have HL:=zh hd;clear hr hd hc;go_wp2;go_round;case rel=>exact⟨y,r,rfl,rfl,hy,by have:=HL.out;omega,HX⟩
   case measure=>have:=HL.out;simp[intOf];omega
theorem r8_trunc (x n:Int) (hx:In63 x) (w:World):Rt 100 #[.int .i64 x,.int .i64 n] w (vG (numG (truncX x n))):=by
 have hb:Is64 x:=by unfold In63 at hx;unfold Is64;omega
 unfold truncX;by_cases h1:3<n
 rw[if_pos h1];have HN:=zh (zAw x hb)
 rotate_left
 rw[if_neg h1];by_cases h2:n< -14
 rw[if_pos h2];have HN:=zh (zAw 0 (by unfold Is64;omega))
 rotate_left
 ·rw[if_neg h2];obtain⟨m,hm⟩:=lt_ ((4-n).toNat);have hn:n=4-(m:Int):=by omega
  have hf:m<=18:=by omega
  rw[hm];obtain⟨u,hu⟩:=lt_ ((10:Int) ^ m);have ho:=pow10_pos m;have hq:=pow10_lt m hf;rw[hu] at ho hq ⊢;have hd:=Int.mul_tdiv_add_tmod x u;have ht:Is64 (x.tmod u):=mod_word hb (by unfold Is64;omega) (by omega);obtain⟨t,ha⟩:=lt_ (x.tmod u);have hh:=QP x u;have hi:=Nat.mod_le x.natAbs u.natAbs;have hg:x-t=x.tdiv u*u:=by rw[<- ha,Int.mul_comm];omega
  have he:Is64 (x-t):=by
   have h3:(x.tdiv u*u).natAbs<=x.natAbs:=by
    rw[Int.natAbs_mul,QF];exact QS _ _
   rw[<- hg] at h3;unfold In63 at hx;unfold Is64;omega
  rw[<- hg];have HN:=zh (zAw (x-t) he);have HU:=zh hu;have w1:Q7.wrap (x-t)=x-t:=by unfold Is64 at he;rw[Q4];omega
  have w2:wrap64 (x.tmod u)=t:=by rw[<- ha];unfold Is64 at ht;unfold wrap64;omega
  have w3:Q7.wrap (x.tmod u)=t:=by rw[<- ha];unfold Is64 at ht;rw[Q4];omega
  have hne: ¬ u=0:=by omega
  have HT:=zh ha;have W1:=zh w1;have W2:=zh w2;have W3:=zh w3;subst hn;clear hm hx hb hu hd ht hh hi hg he w1 w2 w3 ha;go_enter func100,ntmps100;go_wp2
  go_loop [6,5] (fun s v=>∃ j:Nat,j<=m/\s=.int .i64 (4-(j:Int))/\v=.int .i64 ((10:Int) ^ j)) (fun s _=>(intOf s+m-4).toNat)
  case atStart=>exact⟨0,QA _,rfl,rfl⟩
  case round =>
   obtain⟨j,hj,rfl,rfl⟩:=hrel;by_cases hlt:j<m
   ·have hp:=pow10_lt j (by omega);have hl:=pow10_lt (j+1) (by omega);have hk:=pow10_pos j;have hs:(10:Int) ^ (j+1)=10 ^ j*10:=Int.pow_succ _ _;obtain⟨v,hv⟩:=lt_ ((10:Int) ^ j);rw[hs,hv] at hl;rw[hv] at hp hk hs ⊢;have hw:Q7.wrap (10*v)=10*v:=by rw[Q4];omega
    have hr:Q7.wrap (4-(j:Int)-1)=4-((j+1:Nat):Int):=by rw[Q4];omega
    have hc:4-(m:Int)<4-(j:Int):=by omega
    have HS:=zh hs;clear hs hv;go_wp2;go_round;case rel=>exact⟨j+1,by omega,by first|rfl|(simp only[hr];done)|go_num|(congr 1;omega),by rw[HS.out];first|rfl|(congr 1;omega)⟩
    case measure=>simp[intOf];omega
   ·obtain rfl:j=m:=by omega
    rw[HU.out];have w1:=W1.out;have w2:=W2.out;have w3:=W3.out;have ha:=HT.out;go_wp2_with(go_at_call 39;refine mB (HN.out _) ?_;intro l m)
    all_goals(go_returns;exact rb_)
 all_goals
  clear hx hb;go_enter func100,ntmps100;go_wp2_with(go_at_call 39;refine mB (HN.out _) ?_;intro l m)
  all_goals(go_returns;exact rb_)
end Go.Proofs.YtnccknhbplaieaaGreatDoor
