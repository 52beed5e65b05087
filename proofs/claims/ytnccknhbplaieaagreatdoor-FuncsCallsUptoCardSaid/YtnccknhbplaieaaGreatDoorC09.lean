/- Parts. -/
import Derived.Test.YtnccknhbplaieaaGreatDoorC08
import Derived.Shelf.Bits.Mul64
import Derived.Shelf.Strings.Builder1
import Derived.Shelf.Strings.Builder2
import Derived.Shelf.Strings.OnBuilder
import Derived.Shelf.Strings.Trim
import Derived.Shelf.Small.Utf8
import Derived.Shelf.Small.Bits
import Derived.Shelf.Small.Strs
import Derived.Shelf.Small.Wraps
import Derived.Shelf.Strings.BuilderF
import Derived.Shelf.Strings.BuilderK
import Derived.Shelf.Strings.Builder2Cap
import Derived.Shelf.Strconv.Itoa0
import Derived.Shelf.Strconv.Itoa1
import Derived.Shelf.LaysM
import Derived.Shelf.Strconv.Itoa2
import Derived.Shelf.Strconv.Itoa3
import Derived.Shelf.Strconv.Clone
import Derived.Shelf.Strconv.SyntaxError
import Derived.Shelf.LaysC
import Derived.Shelf.Strconv.ToError
import Derived.Shelf.Strconv.Lower
import Derived.Shelf.Strconv.ParseUint10
import Derived.Shelf.Strconv.ParseUint10Empty
import Derived.Shelf.Strconv.ParseUint10Any
import Derived.Shelf.Strconv.RangeError
import Derived.Shelf.Strconv.ToErrorRange
import Derived.Shelf.Strconv.ParseUintEmpty
import Derived.Shelf.Strconv.ParseUint10b64
import Derived.Shelf.Strconv.ParseUint10b32
import Derived.Shelf.Strconv.ParseUint10b16
import Derived.Shelf.Strconv.ParseUint10b8
import Derived.Shelf.Strconv.ParseUint10At
import Derived.Ground.MpProg
import Derived.Shelf.Pu.ParseUintPublic10
import Derived.Shelf.Pu.ErrVarParseUint
import Derived.Shelf.Strings.Search1
import Derived.Shelf.Strings.Search2
import Derived.Shelf.Strings.Search3
import Derived.Shelf.Strings.Cut
import Derived.Shelf.Strings.Shaped
import Derived.Shelf.Strings.Prefix
import Derived.Shelf.Unicode.Decode
import Derived.Shelf.Strings.Runes
import Derived.Shelf.Strings.AsciiSet
import Derived.Shelf.Strings.Repeat
import Derived.Shelf.Unicode.DecodeSlow
import Derived.Shelf.Unicode.DecodeAny
import Derived.Shelf.Unicode.DecodeLast
import Derived.Shelf.Strings.BuilderCap
import Derived.Ground.SlgnProg
import Derived.Shelf.SlicesG.Turned
import Derived.Shelf.SlicesG.SearchI
import Derived.Ground.SlgmProg
import Derived.Shelf.SortM.Plain
import Derived.Shelf.SortM.SortNone
import Derived.Deep.CutBlock
import Derived.Lib.ItoaMem
import Derived.Lib.AppendIntMem
import Derived.Lib.Walk
import Derived.BigCall
import Derived.BigGuard
set_option linter.all false
set_option maxRecDepth 100000
set_option maxHeartbeats 4000000
namespace Go.Proofs.YtnccknhbplaieaaGreatDoor.Div64
theorem split (v q:Nat):q*v=q*(v / 4294967296)*4294967296+q*(v % 4294967296):=by
 have h:=Nat.div_add_mod v 4294967296
 calc q*v=q*(4294967296*(v / 4294967296)+v % 4294967296):=by rw[h]
  _=q*(v / 4294967296)*4294967296+q*(v % 4294967296):=by rw[Nat.mul_add,Nat.mul_comm 4294967296,Nat.mul_assoc]
theorem le_of {v u d q r:Nat} (hv:0<v) (hi:q*(v / 4294967296)+r=u) (h2:q*(v % 4294967296)<=4294967296*r+d):q<=(u*4294967296+d) / v:=by
 rw[Nat.le_div_iff_mul_le hv,split v q];omega
theorem lt_of {v u d q r:Nat} (hv:0<v) (hi:q*(v / 4294967296)+r=u) (h2:4294967296*r+d<q*(v % 4294967296)):(u*4294967296+d) / v<q:=by
 rw[Nat.div_lt_iff_lt_mul hv,split v q];omega
theorem digit_lt {v u d:Nat} (hu:u<v) (hd:d<4294967296):(u*4294967296+d) / v<4294967296:=by
 rw[Nat.div_lt_iff_lt_mul (by omega)];have:(u+1)*4294967296<=v*4294967296:=Nat.mul_le_mul_right _ hu;omega
theorem guess {v u d:Nat} (h0:9223372036854775808<=v) (hu:u<v) (hd:d<4294967296):(u*4294967296+d) / v<=u / (v / 4294967296)/\u / (v / 4294967296)<=4294967297:=by
 have hn:2147483648<=v / 4294967296:=by omega
 constructor
 ·rw[Nat.le_div_iff_mul_le (by omega)];have h1:(u*4294967296+d) / v*v<=u*4294967296+d:=Nat.div_mul_le_self _ _;rw[split] at h1;generalize (u*4294967296+d) / v*(v / 4294967296)=z at h1 ⊢;omega
 ·have h1:u<(4294967297+1)*(v / 4294967296):=by omega
  have:=(Nat.div_lt_iff_lt_mul (show 0<v / 4294967296 by omega)).2 h1;omega
theorem at_break {v u d q r:Nat} (hv:0<v) (hi:q*(v / 4294967296)+r=u) (hr:4294967296<=r) (hq:q<=4294967296):q<=(u*4294967296+d) / v:=by
 refine le_of hv hi ?_;have h1:q*(v % 4294967296)<=4294967296*4294967296:=Nat.mul_le_mul hq (by omega);omega
structure Inv (v u d q r:Nat):Prop where
 inv:q*(v / 4294967296)+r=u
 low:r<4294967296
 top:q<=4294967297
 ge:(u*4294967296+d) / v<=q
theorem Inv.start {v u d:Nat} (h0:9223372036854775808<=v) (hv:v<18446744073709551616) (hu:u<v) (hd:d<4294967296):Inv v u d (u / (v / 4294967296)) (u-u / (v / 4294967296)*(v / 4294967296)):=by
 obtain⟨h1,h2⟩:=guess h0 hu hd;have h3:=Nat.div_add_mod u (v / 4294967296);have h4:=Nat.mod_lt u (show 0<v / 4294967296 by omega);rw[Nat.mul_comm] at h3;exact⟨by omega,by omega,h2,h1⟩
theorem Inv.fits {v u d q r:Nat} (h:Inv v u d q r) (hd:d<4294967296):q*(v % 4294967296)<18446744073709551616/\4294967296*r+d<18446744073709551616:=by
 have h1:q*(v % 4294967296)<=4294967297*4294967295:=Nat.mul_le_mul h.top (by omega);have h2:=h.low;exact⟨by omega,by omega⟩
theorem Inv.done {v u d q r:Nat} (h:Inv v u d q r) (hv:0<v) (h2:q*(v % 4294967296)<=4294967296*r+d):q=(u*4294967296+d) / v :=
 Nat.le_antisymm (le_of hv h.inv h2) h.ge
theorem Inv.great {v u d q r:Nat} (h:Inv v u d q r) (hu:u<v) (hd:d<4294967296) (h2:4294967296<=q∨4294967296*r+d<q*(v % 4294967296)):(u*4294967296+d) / v+1<=q:=by
 rcases h2 with h2|h2
 ·have:=digit_lt hu hd;omega
 ·exact lt_of (by omega) h.inv h2
theorem one_less {q a r u:Nat} (hq:1<=q) (h:q*a+r=u):(q-1)*a+(r+a)=u:=by
 obtain⟨k,rfl⟩:∃ k,q=k+1:=⟨q-1,by omega⟩
 rw[Nat.succ_mul] at h;rw[Nat.add_sub_cancel];omega
theorem Inv.round {v u d q r:Nat} (h:Inv v u d q r) (hg:(u*4294967296+d) / v+1<=q) (hr:r+v / 4294967296<4294967296):Inv v u d (q-1) (r+v / 4294967296) :=
 ⟨one_less (Nat.le_trans (Nat.le_add_left 1 _) hg) h.inv,hr,Nat.le_trans (Nat.sub_le _ _) h.top,Nat.le_sub_one_of_lt hg⟩
theorem Inv.brk {v u d q r:Nat} (h:Inv v u d q r) (hv:0<v) (hg:(u*4294967296+d) / v+1<=q) (hr:4294967296<=r+v / 4294967296):q-1=(u*4294967296+d) / v :=
 Nat.le_antisymm (at_break hv (one_less (Nat.le_trans (Nat.le_add_left 1 _) hg) h.inv) hr (by have:=h.top;omega)) (Nat.le_sub_one_of_lt hg)
theorem left_aux {A v q r:Nat} (h1:q*v+r=A) (h2:r<v) (hv2:v<18446744073709551616):(A+(18446744073709551616-q*v % 18446744073709551616)) % 18446744073709551616=r:=by
 subst h1;have h3:=Nat.div_add_mod (q*v) 18446744073709551616;have h4:=Nat.mod_lt (q*v) (show 0<18446744073709551616 by decide);have e:q*v+r+(18446744073709551616-q*v % 18446744073709551616)=r+18446744073709551616*(q*v / 18446744073709551616+1):=by omega
 rw[e,Nat.add_mul_mod_self_left,Nat.mod_eq_of_lt (by omega)]
theorem left {v u d q:Nat} (hv:0<v) (hv2:v<18446744073709551616) (hq:q=(u*4294967296+d) / v):(u*4294967296+d+(18446744073709551616-q*v % 18446744073709551616)) % 18446744073709551616=(u*4294967296+d) % v :=
 left_aux (by rw[hq,Nat.mul_comm];exact Nat.div_add_mod _ _) (Nat.mod_lt _ hv) hv2
theorem both_aux {N A v d0 q1 r1 q0 r0:Nat} (hv:0<v) (hN:N=A*4294967296+d0) (h1:v*q1+r1=A) (h2:v*q0+r0=r1*4294967296+d0) (h3:r0<v):N / v=q1*4294967296+q0/\N % v=r0:=by
 have e:N=r0+v*(q1*4294967296+q0):=by
  rw[Nat.mul_add,<-Nat.mul_assoc];omega
 rw[e];exact⟨by rw[Nat.add_mul_div_left _ _ hv,Nat.div_eq_of_lt h3,Nat.zero_add],by rw[Nat.add_mul_mod_self_left,Nat.mod_eq_of_lt h3]⟩
theorem both {N v u d0 d1:Nat} (hv:0<v) (hN:N=u*18446744073709551616+d1*4294967296+d0) :
  N / v=(u*4294967296+d1) / v*4294967296+((u*4294967296+d1) % v*4294967296+d0) / v/\N % v=((u*4294967296+d1) % v*4294967296+d0) % v :=
 both_aux hv (by rw[hN];omega) (Nat.div_add_mod _ _) (Nat.div_add_mod _ _) (Nat.mod_lt _ hv)
theorem shifted (hi lo s:Nat) (hs:s<=64):(hi*2 ^ s+lo / 2 ^ (64-s))*18446744073709551616+lo*2 ^ s % 18446744073709551616=(hi*18446744073709551616+lo)*2 ^ s:=by
 have h1:=Nat.div_add_mod (lo*2 ^ s) 18446744073709551616;have h2:(18446744073709551616:Nat)=2 ^ (64-s)*2 ^ s:=by rw[<- Nat.pow_add,Nat.sub_add_cancel hs]
 have h3:lo*2 ^ s / 18446744073709551616=lo / 2 ^ (64-s):=by
  rw[h2,Nat.mul_div_mul_right _ _ (Nat.two_pow_pos s)]
 rw[h3] at h1;generalize lo*2 ^ s % 18446744073709551616=m at *;rw[Nat.add_mul,Nat.add_mul,Nat.mul_right_comm hi];omega
theorem shifted_lt {hi lo y s:Nat} (hs:s<=64) (hl:lo<18446744073709551616) (h:hi<y):hi*2 ^ s+lo / 2 ^ (64-s)<y*2 ^ s:=by
 have h2:(18446744073709551616:Nat)=2 ^ s*2 ^ (64-s):=by rw[<- Nat.pow_add,Nat.add_sub_cancel' hs]
 have h1:lo / 2 ^ (64-s)<2 ^ s:=(Nat.div_lt_iff_lt_mul (Nat.two_pow_pos _)).2 (by rw[<- h2];exact hl);have h3:(hi+1)*2 ^ s<=y*2 ^ s:=Nat.mul_le_mul_right _ h;rw[Nat.succ_mul] at h3;omega
theorem norm {y:Nat} (h0:0<y) (h1:y<18446744073709551616):Lib.bitLen y<=64/\1<=Lib.bitLen y/\9223372036854775808<=y*2 ^ (64-Lib.bitLen y)/\y*2 ^ (64-Lib.bitLen y)<18446744073709551616:=by
 obtain⟨a,b,c⟩:=Lib.bitLenAux_bounds 64 y h1 (by omega);have hb:Lib.bitLen y<=64:=Lib.bitLen_le y 64 (Nat.le_refl _) h1
 change 1<=Lib.bitLen y at a
 change 2 ^ (Lib.bitLen y-1)<=y at b
 change y<2 ^ Lib.bitLen y at c
 generalize Lib.bitLen y=n at *;refine⟨hb,a,?_,?_⟩
 ·have:=Nat.mul_le_mul_right (2 ^ (64-n)) b;rw[<- Nat.pow_add,show n-1+(64-n)=63 by omega] at this;exact this
 ·have:=(Nat.mul_lt_mul_right (Nat.two_pow_pos (64-n))).2 c;rw[<- Nat.pow_add,show n+(64-n)=64 by omega] at this;exact this
theorem or_sum {s a b:Nat} (h:b<2 ^ s):(a*2 ^ s) ||| b=a*2 ^ s+b:=by
 rw[Nat.mul_comm,Nat.two_pow_add_eq_or_of_lt h]
end Go.Proofs.YtnccknhbplaieaaGreatDoor.Div64
namespace Go.Proofs.YtnccknhbplaieaaGreatDoor.Div64
open Go
structure Facts (hi lo y s t v H D u z d1 d0 a b:Nat):Prop where
 k1:IntKind.u64.wrap (64-((Lib.bitLen y:Nat):Int))=(s:Int)
 k2:min s 64=s
 k3:IntKind.u64.wrap ((y:Int)*2 ^ s)=(v:Int)
 k4:IntKind.u64.wrap (64-(s:Int))=(t:Int)
 k5:min t 64=t
 k6:IntKind.u64.wrap ((hi:Int)*2 ^ s)=(H:Int)
 k7:(lo:Int) / 2 ^ t=(D:Int)
 k8:bits .or .u64 (H:Int) (D:Int)=(u:Int)
 k9:IntKind.u64.wrap ((lo:Int)*2 ^ s)=(z:Int)
 k10:(z:Int) / 4294967296=(d1:Int)
 k11:bits .and .u64 (z:Int) 4294967295=(d0:Int)
 k12:(v:Int) / 4294967296=(a:Int)
 k13:bits .and .u64 (v:Int) 4294967295=(b:Int)
 v0:9223372036854775808<=v
 v1:v<18446744073709551616
 uv:u<v
 h1:d1<4294967296
 h0:d0<4294967296
 ha:a=v / 4294967296
 hb:b=v % 4294967296
 quo:(hi*18446744073709551616+lo) / y=(u*4294967296+d1) / v*4294967296+((u*4294967296+d1) % v*4294967296+d0) / v
 rem:(hi*18446744073709551616+lo) % y=((u*4294967296+d1) % v*4294967296+d0) % v / 2 ^ s
theorem facts (hi lo y:Nat) (h:hi<y) (hl:lo<18446744073709551616) (hy:y<18446744073709551616):∃ s t v H D u z d1 d0 a b:Nat,Facts hi lo y s t v H D u z d1 d0 a b:=by
 obtain⟨n1,n2,n3,n4⟩:=norm (show 0<y by omega) hy;obtain⟨s,hs⟩:∃ s,s=64-Lib.bitLen y:=⟨_,rfl⟩
 rw[<- hs] at n3 n4;have hc:s<=64:=by omega
 have hp:0<2 ^ s:=Nat.two_pow_pos s;have he:=shifted_lt hc hl h;have hf:=shifted hi lo s hc;have hz:lo*2 ^ s % 18446744073709551616<18446744073709551616:=Nat.mod_lt _ (by decide);have hH:hi*2 ^ s<18446744073709551616:=by
  have:=Nat.mul_le_mul_right (2 ^ s) (Nat.le_of_lt h);omega
 have hD:lo / 2 ^ (64-s)<2 ^ s:=(Nat.div_lt_iff_lt_mul (Nat.two_pow_pos _)).2 (by rw[<- Nat.pow_add,Nat.add_sub_cancel' hc];exact hl);have hd:lo / 2 ^ (64-s)<18446744073709551616:=Nat.lt_of_le_of_lt (Nat.div_le_self _ _) hl;have hN:=both (N:=(hi*18446744073709551616+lo)*2 ^ s) (v:=y*2 ^ s) (u:=hi*2 ^ s+lo / 2 ^ (64-s)) (d1:=lo*2 ^ s % 18446744073709551616 / 4294967296) (d0:=lo*2 ^ s % 18446744073709551616 % 4294967296) (by omega) (by rw[<- hf];omega);rw[Nat.mul_div_mul_right _ _ hp,Nat.mul_mod_mul_right] at hN;refine⟨s,64-s,y*2 ^ s,hi*2 ^ s,lo / 2 ^ (64-s),hi*2 ^ s+lo / 2 ^ (64-s),lo*2 ^ s % 18446744073709551616,lo*2 ^ s % 18446744073709551616 / 4294967296,lo*2 ^ s % 18446744073709551616 % 4294967296,y*2 ^ s / 4294967296,y*2 ^ s % 4294967296,?_⟩;have c2:((2:Int) ^ s)=((2 ^ s:Nat):Int):=by simp
 have c3:((2:Int) ^ (64-s))=((2 ^ (64-s):Nat):Int):=by simp
 exact {
  k1:=by rw[IntKind.wrap_u64];omega
  k2:=by omega
  k3:=by rw[c2,<-Int.natCast_mul,Mul64.wrapN _ n4]
  k4:=by rw[IntKind.wrap_u64];omega
  k5:=by omega
  k6:=by rw[c2,<-Int.natCast_mul,Mul64.wrapN _ hH]
  k7:=by rw[c3,<-Int.natCast_ediv]
  k8:=by rw[bits_or_u64_nat _ _ hH hd,or_sum hD]
  k9:=by rw[c2,<-Int.natCast_mul,Mul64.wrapM]
  k10:=Mul64.divN _
  k11:=Mul64.maskN _ hz
  k12:=Mul64.divN _
  k13:=Mul64.maskN _ n4
  v0:=n3
  v1:=n4
  uv:=he
  h1:=by omega
  h0:=Nat.mod_lt _ (by decide)
  ha:=rfl
  hb:=rfl
  quo:=hN.1
  rem:=by rw[<- hN.2,Nat.mul_div_cancel _ hp] }
theorem start_words {v u a:Nat} (v0:9223372036854775808<=v) (v1:v<18446744073709551616) (uv:u<v) (ha:a=v / 4294967296) {d:Nat} (hd:d<4294967296) :
  ∃ q r:Nat,IntKind.u64.wrap ((u:Int) / (a:Int))=(q:Int)/\IntKind.u64.wrap ((q:Int)*(a:Int))=((u-r:Nat):Int)/\IntKind.u64.wrap ((u:Int)-((u-r:Nat):Int))=(r:Int)/\Inv v u d q r:=by
 subst ha;have hI:=Inv.start v0 v1 uv hd;have hq:u / (v / 4294967296)<18446744073709551616:=Nat.lt_of_le_of_lt (Nat.div_le_self _ _) (by omega);have hm:u / (v / 4294967296)*(v / 4294967296)<=u:=Nat.div_mul_le_self _ _;refine⟨u / (v / 4294967296),u-u / (v / 4294967296)*(v / 4294967296),?_,?_,?_,hI⟩
 ·rw[<- Int.natCast_ediv,Mul64.wrapN _ hq]
 ·rw[<- Int.natCast_mul,Nat.sub_sub_self hm,Mul64.wrapN _ (by omega)]
 ·rw[Nat.sub_sub_self hm,<-Int.ofNat_sub hm,Mul64.wrapN _ (by omega)]
theorem test_words {v u d q r b:Nat} (h:Inv v u d q r) (hb:b=v % 4294967296) (hd:d<4294967296) :
  ∃ m x e:Nat,IntKind.u64.wrap ((q:Int)*(b:Int))=(m:Int)/\IntKind.u64.wrap (4294967296*(r:Int))=(x:Int)/\IntKind.u64.wrap ((x:Int)+(d:Int))=(e:Int)/\m=q*(v % 4294967296)/\e=4294967296*r+d:=by
 subst hb;obtain⟨f1,f2⟩:=h.fits hd;refine⟨q*(v % 4294967296),4294967296*r,4294967296*r+d,?_,?_,?_,rfl,rfl⟩
 ·rw[<- Int.natCast_mul,Mul64.wrapN _ f1]
 ·rw[show (4294967296*(r:Int))=((4294967296*r:Nat):Int) by omega,Mul64.wrapN _ (by omega)]
 ·rw[<- Int.natCast_add,Mul64.wrapN _ f2]
theorem less_words {v u d q r a:Nat} (h:Inv v u d q r) (ha:a=v / 4294967296) (v1:v<18446744073709551616) (hq:1<=q) :
  ∃ q' r':Nat,IntKind.u64.wrap ((q:Int)-1)=(q':Int)/\IntKind.u64.wrap ((r:Int)+(a:Int))=(r':Int)/\q'=q-1/\r'=r+v / 4294967296:=by
 subst ha;have h1:=h.top;have h2:=h.low;refine⟨q-1,r+v / 4294967296,?_,?_,rfl,rfl⟩
 ·rw[IntKind.wrap_u64];omega
 ·rw[<- Int.natCast_add,Mul64.wrapN _ (by omega)]
theorem left_words {v u d q:Nat} (hv:0<v) (v1:v<18446744073709551616) (hq:q=(u*4294967296+d) / v) :
  ∃ x e m:Nat,IntKind.u64.wrap ((u:Int)*4294967296)=(x:Int)/\IntKind.u64.wrap ((x:Int)+(d:Int))=(e:Int)/\IntKind.u64.wrap ((q:Int)*(v:Int))=(m:Int)/\IntKind.u64.wrap ((e:Int)-(m:Int))=(((u*4294967296+d) % v:Nat):Int):=by
 have h:=left hv v1 hq;refine⟨u*4294967296 % 18446744073709551616,(u*4294967296+d) % 18446744073709551616,q*v % 18446744073709551616,?_,?_,?_,?_⟩
 ·rw[show ((u:Int)*4294967296)=((u*4294967296:Nat):Int) by omega,Mul64.wrapM]
 ·rw[<- Int.natCast_add,Mul64.wrapM,Nat.add_mod (u*4294967296) d,Nat.mod_add_mod,<-Nat.add_mod]
 ·rw[<- Int.natCast_mul,Mul64.wrapM]
 ·rw[IntKind.wrap_u64,<-h];have h4:=Nat.mod_lt (q*v) (show 0<18446744073709551616 by decide);omega
theorem last_words {q p:Nat} (hq:q<4294967296) (hp:p<4294967296):∃ x:Nat,IntKind.u64.wrap ((q:Int)*4294967296)=(x:Int)/\IntKind.u64.wrap ((x:Int)+(p:Int))=((q*4294967296+p:Nat):Int):=by
 refine⟨q*4294967296,?_,?_⟩
 ·rw[show ((q:Int)*4294967296)=((q*4294967296:Nat):Int) by omega,Mul64.wrapN _ (by omega)]
 ·rw[<- Int.natCast_add,Mul64.wrapN _ (by omega)]
end Go.Proofs.YtnccknhbplaieaaGreatDoor.Div64
namespace Go.Proofs
open Go.Shelf
def Tryz.lays162_ren:Go.Shelf.Ren:=⟨fun|162=>296|232=>333|227=>334|234=>335|236=>336|228=>358|271=>359|151=>360|120=>389|197=>343|152=>390|260=>373|137=>402|119=>403|224=>346|225=>345|217=>344|266=>374|n=>n,fun|9=>9|4=>4|3=>3|5=>5|117=>292|116=>291|0=>0|124=>295|21=>21|105=>299|46=>198|119=>337|139=>340|138=>339|n=>n,fun|3=>4|4=>5|n=>n⟩
theorem Tryz.lays162:Go.Proofs.Lays.n162 Tryz.prog Tryz.lays162_ren:= {
 mixed:=by kernel_rfl
 f119:=Tryz.func403.trans (congrArg some (by kernel_rfl))
 f120:=Tryz.func389.trans (congrArg some (by kernel_rfl))
 f137:=Tryz.func402.trans (congrArg some (by kernel_rfl))
 f151:=Tryz.func360.trans (congrArg some (by kernel_rfl))
 f152:=Tryz.func390.trans (congrArg some (by kernel_rfl))
 f162:=Tryz.func296.trans (congrArg some (by kernel_rfl))
 f197:=Tryz.func343.trans (congrArg some (by kernel_rfl))
 f217:=Tryz.func344.trans (congrArg some (by kernel_rfl))
 f224:=Tryz.func346.trans (congrArg some (by kernel_rfl))
 f225:=Tryz.func345.trans (congrArg some (by kernel_rfl))
 f227:=Tryz.func334.trans (congrArg some (by kernel_rfl))
 f228:=Tryz.func358.trans (congrArg some (by kernel_rfl))
 f232:=Tryz.func333.trans (congrArg some (by kernel_rfl))
 f234:=Tryz.func335.trans (congrArg some (by kernel_rfl))
 f236:=Tryz.func336.trans (congrArg some (by kernel_rfl))
 f260:=Tryz.func373.trans (congrArg some (by kernel_rfl))
 f266:=Tryz.func374.trans (congrArg some (by kernel_rfl))
 f271:=Tryz.func359.trans (congrArg some (by kernel_rfl))
 t0:=Tryz.underlying0
 a0:=Tryz.isAgg0
 z0:=Tryz.sizeOf0
 v0:=Tryz.zeroValue0
 t3:=Tryz.underlying3
 a3:=Tryz.isAgg3
 z3:=Tryz.sizeOf3
 v3:=Tryz.zeroValue3
 t4:=Tryz.underlying4
 a4:=Tryz.isAgg4
 z4:=Tryz.sizeOf4
 v4:=Tryz.zeroValue4
 t5:=Tryz.underlying5
 a5:=Tryz.isAgg5
 z5:=Tryz.sizeOf5
 v5:=Tryz.zeroValue5
 t9:=Tryz.underlying9
 a9:=Tryz.isAgg9
 z9:=Tryz.sizeOf9
 v9:=Tryz.zeroValue9
 t21:=Tryz.underlying21
 a21:=Tryz.isAgg21
 z21:=Tryz.sizeOf21
 v21:=Tryz.zeroValue21
 t46:=Tryz.underlying198
 a46:=Tryz.isAgg198
 z46:=Tryz.sizeOf198
 v46:=Tryz.zeroValue198
 t105:=Tryz.underlying299
 a105:=Tryz.isAgg299
 z105:=Tryz.sizeOf299
 v105:=Tryz.zeroValue299
 t116:=Tryz.underlying291
 a116:=Tryz.isAgg291
 z116:=Tryz.sizeOf291
 t117:=Tryz.underlying292
 a117:=Tryz.isAgg292
 z117:=Tryz.sizeOf292
 v117:=Tryz.zeroValue292
 t119:=Tryz.underlying337
 a119:=Tryz.isAgg337
 z119:=Tryz.sizeOf337
 t124:=Tryz.underlying295
 a124:=Tryz.isAgg295
 z124:=Tryz.sizeOf295
 v124:=Tryz.zeroValue295
 t138:=Tryz.underlying339
 a138:=Tryz.isAgg339
 z138:=Tryz.sizeOf339
 v138:=Tryz.zeroValue339
 t139:=Tryz.underlying340
 a139:=Tryz.isAgg340
 z139:=Tryz.sizeOf340
 v139:=Tryz.zeroValue340
 g3:=by kernel_rfl
 g4:=by kernel_rfl }
open Go.RowKit in
theorem Tryz.strings_TrimRight_one (s:ByteArray) (c:UInt8) (hc:c.toNat<128) (w:World) (hs:s.size<=9223372036854775807) :
 Calls Tryz.prog 296 #[.string s,.string ⟨#[c]⟩] w fun e w'=>e=.returned (.string ⟨(Lib.trimRightB s.data.toList c).toArray⟩)/\w'=w:=Any.strings_TrimRight_one Tryz.lays162 s c hc w hs
def Tryz.lays134_ren:Go.Shelf.Ren:=⟨fun|134=>337|129=>361|n=>n,fun|53=>133|3=>3|4=>4|46=>198|5=>5|9=>9|n=>n,fun|n=>n⟩
theorem Tryz.lays134:Go.Proofs.Lays.n134 Tryz.prog Tryz.lays134_ren:= {
 mixed:=by kernel_rfl
 f129:=Tryz.func361.trans (congrArg some (by kernel_rfl))
 f134:=Tryz.func337.trans (congrArg some (by kernel_rfl))
 t3:=Tryz.underlying3
 a3:=Tryz.isAgg3
 z3:=Tryz.sizeOf3
 v3:=Tryz.zeroValue3
 t4:=Tryz.underlying4
 a4:=Tryz.isAgg4
 z4:=Tryz.sizeOf4
 v4:=Tryz.zeroValue4
 t5:=Tryz.underlying5
 a5:=Tryz.isAgg5
 z5:=Tryz.sizeOf5
 v5:=Tryz.zeroValue5
 t9:=Tryz.underlying9
 a9:=Tryz.isAgg9
 z9:=Tryz.sizeOf9
 v9:=Tryz.zeroValue9
 t46:=Tryz.underlying198
 a46:=Tryz.isAgg198
 z46:=Tryz.sizeOf198
 v46:=Tryz.zeroValue198
 t53:=Tryz.underlying133
 a53:=Tryz.isAgg133
 z53:=Tryz.sizeOf133
 v53:=Tryz.zeroValue133 }
theorem Tryz.bits_LeadingZeros64 (x:Int) (w:World) (h0:0<=x) (h1:x<=18446744073709551615) :
 Calls Tryz.prog 337 #[.int .u64 x] w fun e w'=>e=.returned (.int .i64 (64-(Lib.bitLen x.toNat:Int)))/\w'=w:=Any.bits_LeadingZeros64 Tryz.lays134 x w h0 h1
def Tryz.lays283_ren:Go.Shelf.Ren:=⟨fun|283=>354|n=>n,fun|3=>3|9=>9|4=>4|n=>n,fun|n=>n⟩
theorem Tryz.lays283:Go.Proofs.Lays.n283 Tryz.prog Tryz.lays283_ren:= {
 mixed:=by kernel_rfl
 f283:=Tryz.func354.trans (congrArg some (by kernel_rfl))
 t3:=Tryz.underlying3
 a3:=Tryz.isAgg3
 z3:=Tryz.sizeOf3
 v3:=Tryz.zeroValue3
 t4:=Tryz.underlying4
 a4:=Tryz.isAgg4
 z4:=Tryz.sizeOf4
 v4:=Tryz.zeroValue4
 t9:=Tryz.underlying9
 a9:=Tryz.isAgg9
 z9:=Tryz.sizeOf9
 v9:=Tryz.zeroValue9 }
open Go.Lib in
theorem Tryz.internal_strconv_small (i:Nat) (h:i<100) (w:World) :
 Calls Tryz.prog 354 #[.int .i64 i] w fun e w'=>e=.returned (.string ⟨(Lib.decDigits i).toArray⟩)/\w'=w:=Any.internal_strconv_small Tryz.lays283 i h w
def Tryz.laysM284_ren:Go.Shelf.Ren:=⟨fun|284=>355|129=>361|317=>385|318=>386|n=>n,fun|53=>133|3=>3|212=>328|0=>0|4=>4|46=>198|5=>5|9=>9|n=>n,fun|17=>3|n=>n⟩
theorem Tryz.laysM284:Go.Proofs.LaysM.n284 Tryz.prog Tryz.laysM284_ren:= {
 mixed:=by kernel_rfl
 f129:=Tryz.func361.trans (congrArg some (by kernel_rfl))
 f284:=Tryz.func355.trans (congrArg some (by kernel_rfl))
 f317:=Tryz.func385.trans (congrArg some (by kernel_rfl))
 f318:=Tryz.func386.trans (congrArg some (by kernel_rfl))
 t0:=Tryz.underlying0
 a0:=Tryz.isAgg0
 z0:=Tryz.sizeOf0
 v0:=Tryz.zeroValue0
 t3:=Tryz.underlying3
 a3:=Tryz.isAgg3
 z3:=Tryz.sizeOf3
 v3:=Tryz.zeroValue3
 t4:=Tryz.underlying4
 a4:=Tryz.isAgg4
 z4:=Tryz.sizeOf4
 v4:=Tryz.zeroValue4
 t5:=Tryz.underlying5
 a5:=Tryz.isAgg5
 z5:=Tryz.sizeOf5
 v5:=Tryz.zeroValue5
 t9:=Tryz.underlying9
 a9:=Tryz.isAgg9
 z9:=Tryz.sizeOf9
 v9:=Tryz.zeroValue9
 t46:=Tryz.underlying198
 a46:=Tryz.isAgg198
 z46:=Tryz.sizeOf198
 v46:=Tryz.zeroValue198
 t53:=Tryz.underlying133
 a53:=Tryz.isAgg133
 z53:=Tryz.sizeOf133
 v53:=Tryz.zeroValue133
 t212:=Tryz.underlying328
 a212:=Tryz.isAgg328
 z212:=Tryz.sizeOf328
 v212:=Tryz.zeroValue328
 g17:=by kernel_rfl
 i0:=by kernel_rfl
 i3:=by kernel_rfl
 i4:=by kernel_rfl
 i5:=by kernel_rfl
 i9:=by kernel_rfl
 i46:=by kernel_rfl
 i53:=by kernel_rfl
 i212:=by kernel_rfl
 m17:=by kernel_rfl }
open Go.Lib in
theorem Tryz.internal_strconv_numDigits (u:Nat) (h1:1<=u) (h2:u<18446744073709551616) (w:World) (htab:Lib.TabIs Tryz.prog w "internal/strconv.uint64pow10" .u64 Lib.pow10Tab) :
 Calls Tryz.prog 355 #[.int .u64 u] w fun e w'=>e=.returned (.int .i64 (Lib.nDigits u))/\w'=w:=Any.internal_strconv_numDigits Tryz.laysM284 u h1 h2 w htab
def Tryz.lays285_ren:Go.Shelf.Ren:=⟨fun|285=>356|n=>n,fun|37=>98|53=>133|3=>3|4=>4|51=>35|9=>9|5=>5|0=>0|n=>n,fun|n=>n⟩
theorem Tryz.lays285:Go.Proofs.Lays.n285 Tryz.prog Tryz.lays285_ren:= {
 mixed:=by kernel_rfl
 f285:=Tryz.func356.trans (congrArg some (by kernel_rfl))
 t0:=Tryz.underlying0
 a0:=Tryz.isAgg0
 z0:=Tryz.sizeOf0
 v0:=Tryz.zeroValue0
 t3:=Tryz.underlying3
 a3:=Tryz.isAgg3
 z3:=Tryz.sizeOf3
 v3:=Tryz.zeroValue3
 t4:=Tryz.underlying4
 a4:=Tryz.isAgg4
 z4:=Tryz.sizeOf4
 v4:=Tryz.zeroValue4
 t5:=Tryz.underlying5
 a5:=Tryz.isAgg5
 z5:=Tryz.sizeOf5
 v5:=Tryz.zeroValue5
 t9:=Tryz.underlying9
 a9:=Tryz.isAgg9
 z9:=Tryz.sizeOf9
 v9:=Tryz.zeroValue9
 t37:=Tryz.underlying98
 a37:=Tryz.isAgg98
 z37:=Tryz.sizeOf98
 v37:=Tryz.zeroValue98
 t51:=Tryz.underlying35
 a51:=Tryz.isAgg35
 z51:=Tryz.sizeOf35
 v51:=Tryz.zeroValue35
 t53:=Tryz.underlying133
 a53:=Tryz.isAgg133
 z53:=Tryz.sizeOf133
 v53:=Tryz.zeroValue133 }
open Go.RowKit Go.Sort Go.Lib in
theorem Tryz.internal_strconv_formatBase10 (blk off cap:Nat) (u:Nat) (d:Array UInt8) (w:World) (hH:Holds (fun (b:UInt8)=>Value.int .u8 (b.toNat:Int)) w blk off d) (hu:u<10 ^ d.size) (hu64:u<18446744073709551616) (hsz:d.size<4611686018427387904) :
 Calls Tryz.prog 356 #[.slice (some ⟨blk,off,none⟩) d.size cap,.int .u64 u] w fun e w' =>
  e=.returned (.tuple #[])/\∃ (n v':Nat) (dk:Array UInt8),w'=(putRow (fun (b:UInt8)=>Value.int .u8 (b.toNat:Int)) w blk off dk).drewN n/\FmtInv d.size u 0 v' dk:=Any.internal_strconv_formatBase10 Tryz.lays285 blk off cap u d w hH hu hu64 hsz
def Tryz.lays264_ren:Go.Shelf.Ren:=⟨fun|264=>271|n=>n,fun|53=>133|46=>198|n=>n,fun|n=>n⟩
theorem Tryz.lays264:Go.Proofs.Lays.n264 Tryz.prog Tryz.lays264_ren:= {
 mixed:=by kernel_rfl
 f264:=Tryz.func271.trans (congrArg some (by kernel_rfl))
 t46:=Tryz.underlying198
 a46:=Tryz.isAgg198
 z46:=Tryz.sizeOf198
 v46:=Tryz.zeroValue198
 t53:=Tryz.underlying133
 a53:=Tryz.isAgg133
 z53:=Tryz.sizeOf133
 v53:=Tryz.zeroValue133 }
open Go.RowKit Go.Lib in
theorem Tryz.bits_Mul64 (x y:Nat) (hx:x<18446744073709551616) (hy:y<18446744073709551616) (w:World) :
 Calls Tryz.prog 271 #[.int .u64 x,.int .u64 y] w fun e w'=>e=.returned (.tuple #[.int .u64 ((x*y / 18446744073709551616:Nat):Int),.int .u64 ((x*y % 18446744073709551616:Nat):Int)])/\w'=w:=Any.bits_Mul64 Tryz.lays264 x y hx hy w
end Go.Proofs
namespace Go.Proofs.YtnccknhbplaieaaGreatDoor
open Go Go.RowKit Go.Proofs.Tryz
open Go.Lib renaming hid->zh
theorem div64_zero (lo y:Nat) (h:0<y) (hl:lo<18446744073709551616) (hy:y<18446744073709551616) (w:World):Rt 304 #[.int .u64 0,.int .u64 lo,.int .u64 y] w (.tuple #[.int .u64 ((lo / y:Nat):Int),.int .u64 ((lo % y:Nat):Int)]):=by
 have h0:((y:Int)==0)=false:=by simp;omega
 have h0': ¬ (y:Int)=0:=by omega
 have h1: ¬ (y:Int)<=0:=by omega
 have hb:(lo:Int) / (y:Int)<=18446744073709551615:=by rw[<- Int.natCast_ediv];have:=Nat.div_le_self lo y;omega
 have hb0:0<=(lo:Int) / (y:Int):=by rw[<- Int.natCast_ediv];exact Int.natCast_nonneg _
 go_enter func304,ntmps304;go_wp2;go_quiet (fail);all_goals go_wp2;all_goals go_ret2;all_goals refine⟨?_,bel⟩;all_goals(rw[Int.natCast_ediv,Int.natCast_emod];rfl)
theorem bits_Div64 (hi lo y:Nat) (h0:0<hi) (h:hi<y) (hl:lo<18446744073709551616) (hy:y<18446744073709551616) (w:World):Rt 304 #[.int .u64 hi,.int .u64 lo,.int .u64 y] w (.tuple #[.int .u64 (((hi*18446744073709551616+lo) / y:Nat):Int),.int .u64 (((hi*18446744073709551616+lo) % y:Nat):Int)]):=by
 have q0:((y:Int)==0)=false:=by simp;omega
 have q1: ¬ (y:Int)<=hi:=by omega
 have q2:((hi:Int)==0)=false:=by simp;omega
 obtain⟨s,t,v,H,D,u,z,d1,d0,a,b,F⟩:=Div64.facts hi lo y h hl hy;rw[F.quo,F.rem];have k1:=F.k1;have k2:=F.k2;have k3:=F.k3;have k4:=F.k4;have k5:=F.k5;have k6:=F.k6;have k7:=F.k7;have k8:=F.k8;have k9:=F.k9;have k10:=F.k10;have k11:=F.k11;have k12:=F.k12;have k13:=F.k13;have v0:0<v:=by have:=F.v0;omega
 have a0:0<a:=by have:=F.ha;have:=F.v0;omega
 have a1:((a:Int)==0)=false:=by simp;omega
 have a2: ¬ (a:Int)=0:=by omega
 obtain⟨q,r,g1,g2,g3,hI⟩:=Div64.start_words F.v0 F.v1 F.uv F.ha F.h1;obtain⟨Q,hQ⟩:∃ Q,Q=(u*4294967296+d1) / v:=⟨_,rfl⟩
 obtain⟨R,hR⟩:∃ R,R=(u*4294967296+d1) % v:=⟨_,rfl⟩
 obtain⟨x1,x2,x3,g4,g5,g6,g7⟩:=Div64.left_words v0 F.v1 hQ;rw[<- hR] at g7;have hf:R<v:=by rw[hR];exact Nat.mod_lt _ v0
 obtain⟨q',r',g8,g9,g10,hJ⟩:=Div64.start_words F.v0 F.v1 hf F.ha F.h0;obtain⟨Q',he⟩:∃ Q',Q'=(R*4294967296+d0) / v:=⟨_,rfl⟩
 obtain⟨y1,y2,y3,g11,g12,g13,g14⟩:=Div64.left_words v0 F.v1 he;have b1:Q<4294967296:=by rw[hQ];exact Div64.digit_lt F.uv F.h1
 have b2:Q'<4294967296:=by rw[he];exact Div64.digit_lt hf F.h0
 obtain⟨z1,g15,g16⟩:=Div64.last_words b1 b2;rw[<- hQ,<-hR,<-he];obtain⟨T,hT⟩:∃ T,T=(R*4294967296+d0) % v:=⟨_,rfl⟩
 rw[<- hT] at g14 ⊢;have HF:=zh F;have hj:=zh hf;have HI:=zh hI;have HJ:=zh hJ;have HQ:=zh hQ;have hh:=zh he;clear F hI hJ hQ he hR hT hf b1 b2;go_enter func304,ntmps304
 go_upto_block 0 with (go_at_call 337;refine(Tryz.bits_LeadingZeros64 y _ (by omega) (by omega)).mono ?_;rintro e w1 ⟨rfl,rfl⟩)
 go_cut [15] (fun az wx=>az=.int .u64 Q/\wx=w1)
 case first =>
  go_wp2_with fail
  go_loopw [15,16] (fun t wt wr=>∃ q r:Nat,t=.int .u64 q/\wt=.int .u64 r/\Div64.Inv v u d1 q r/\wr=w1) (fun t _ _=>(intOf t).toNat)
  case atStart=>exact⟨_,_,rfl,rfl,HI.out,rfl⟩
  case round =>
   obtain⟨q,r,rfl,rfl,hK,rfl⟩:=hrel;obtain⟨m,x,e,f1,f2,f3,f4,f5⟩:=Div64.test_words hK HF.out.hb HF.out.h1;by_cases c1:4294967296<=q∨e<m
   have hg:=hK.great HF.out.uv HF.out.h1 (by rw[<- f4,<-f5];exact c1);have hc:1<=q:=Nat.le_trans (Nat.le_add_left 1 _) hg;obtain⟨p,o,f6,f7,f8,f9⟩:=Div64.less_words hK HF.out.ha HF.out.v1 hc;have hd:(intOf (.int .u64 p)).toNat<(intOf (.int .u64 q)).toNat:=by show ((p:Nat):Int).toNat<((q:Nat):Int).toNat;rw[Int.toNat_natCast,Int.toNat_natCast,f8];exact Nat.sub_lt hc Nat.one_pos
   by_cases c2:4294967296<=o
   ·have hp:p=Q:=by rw[f8,HQ.out];exact hK.brk v0 hg (by rw[<- f9];exact c2)
    have c2i:(4294967296:Int)<=o:=by omega
    by_cases c3:4294967296<=q
    ·have c3i:(4294967296:Int)<=q:=by omega
     clear hK hg hd c1 f4 f5 f8 f9 hc;go_wp2
     go_meet
     exact⟨by first|rfl|rw[hp],rfl⟩
    ·have c3i: ¬ (4294967296:Int)<=q:=by omega
     have c4i:(e:Int)<m:=by omega
     clear hK hg hd c1 f4 f5 f8 f9 hc;go_wp2
     go_meet
     exact⟨by first|rfl|rw[hp],rfl⟩
   have hN:=zh (show Div64.Inv v u d1 p o from by rw[f8,f9];exact hK.round hg (by rw[<- f9];omega));have c2i: ¬ (4294967296:Int)<=o:=by omega
   by_cases c3:4294967296<=q
   have c3i:(4294967296:Int)<=q:=by omega
   rotate_left
   have c3i: ¬ (4294967296:Int)<=q:=by omega
   have c4i:(e:Int)<m:=by omega
   rotate_left
   ·have hp:q=Q:=by rw[HQ.out];exact hK.done v0 (by rw[<- f4,<-f5];omega)
    have c3i: ¬ (4294967296:Int)<=q:=by omega
    have c4i: ¬ (e:Int)<m:=by omega
    clear hK c1 f4 f5;subst hp;go_wp2
    go_meet
    exact⟨rfl,rfl⟩
   all_goals
    clear hK hg c1 f4 f5 f8 f9 hc;go_wp2;exact⟨⟨p,o,rfl,rfl,hN.out,by first|rfl|trivial⟩,hd⟩
 case rest =>
  obtain⟨rfl,hk⟩:=hcut;obtain rfl:=hk;clear HI
  go_upto_block 2 with fail
  go_cut [18] (fun bC wx=>bC=.int .u64 Q'/\wx=wc)
  case first =>
   go_wp2_with fail
   go_loopw [18,16] (fun t wt wr=>∃ q r:Nat,t=.int .u64 q/\wt=.int .u64 r/\Div64.Inv v R d0 q r/\wr=wc) (fun t _ _=>(intOf t).toNat)
   case atStart=>exact⟨_,_,rfl,rfl,HJ.out,rfl⟩
   case round =>
    obtain⟨q,r,rfl,rfl,hK,rfl⟩:=hrel;obtain⟨m,x,e,f1,f2,f3,f4,f5⟩:=Div64.test_words hK HF.out.hb HF.out.h0;by_cases c1:4294967296<=q∨e<m
    have hg:=hK.great hj.out HF.out.h0 (by rw[<- f4,<-f5];exact c1);have hc:1<=q:=Nat.le_trans (Nat.le_add_left 1 _) hg;obtain⟨p,o,f6,f7,f8,f9⟩:=Div64.less_words hK HF.out.ha HF.out.v1 hc;have hd:(intOf (.int .u64 p)).toNat<(intOf (.int .u64 q)).toNat:=by show ((p:Nat):Int).toNat<((q:Nat):Int).toNat;rw[Int.toNat_natCast,Int.toNat_natCast,f8];exact Nat.sub_lt hc Nat.one_pos
    by_cases c2:4294967296<=o
    ·have hp:p=Q':=by rw[f8,hh.out];exact hK.brk v0 hg (by rw[<- f9];exact c2)
     have c2i:(4294967296:Int)<=o:=by omega
     by_cases c3:4294967296<=q
     ·have c3i:(4294967296:Int)<=q:=by omega
      clear hK hg hd c1 f4 f5 f8 f9 hc;go_wp2
      go_meet
      exact⟨by first|rfl|rw[hp],rfl⟩
     ·have c3i: ¬ (4294967296:Int)<=q:=by omega
      have c4i:(e:Int)<m:=by omega
      clear hK hg hd c1 f4 f5 f8 f9 hc;go_wp2
      go_meet
      exact⟨by first|rfl|rw[hp],rfl⟩
    have hN:=zh (show Div64.Inv v R d0 p o from by rw[f8,f9];exact hK.round hg (by rw[<- f9];omega));have c2i: ¬ (4294967296:Int)<=o:=by omega
    by_cases c3:4294967296<=q
    have c3i:(4294967296:Int)<=q:=by omega
    rotate_left
    have c3i: ¬ (4294967296:Int)<=q:=by omega
    have c4i:(e:Int)<m:=by omega
    rotate_left
    ·have hp:q=Q':=by rw[hh.out];exact hK.done v0 (by rw[<- f4,<-f5];omega)
     have c3i: ¬ (4294967296:Int)<=q:=by omega
     have c4i: ¬ (e:Int)<m:=by omega
     clear hK c1 f4 f5;subst hp;go_wp2
     go_meet
     exact⟨rfl,rfl⟩
    all_goals
     clear hK hg c1 f4 f5 f8 f9 hc;go_wp2;exact⟨⟨p,o,rfl,rfl,hN.out,by first|rfl|trivial⟩,hd⟩
  case rest =>
   obtain⟨rfl,rfl⟩:=hcut;clear HJ HQ hh hj HF;go_wp2
   go_ret2
   have c1:((Q*4294967296+Q':Nat):Int)=(Q:Int)*4294967296+(Q':Int):=by omega
   have c2:((T / 2 ^ s:Nat):Int)=(T:Int) / 2 ^ s:=by simp
   refine⟨?_,bel⟩;rw[c1,c2]
   rfl
theorem Div64 (hi lo y:Nat) (h:hi<y) (hl:lo<18446744073709551616) (hy:y<18446744073709551616) (w:World):Rt 304 #[.int .u64 hi,.int .u64 lo,.int .u64 y] w (.tuple #[.int .u64 (((hi*18446744073709551616+lo) / y:Nat):Int),.int .u64 (((hi*18446744073709551616+lo) % y:Nat):Int)]):=by
 by_cases h0:hi=0
 ·subst h0;have h1:=div64_zero lo y h hl hy w;rw[Nat.zero_mul,Nat.zero_add];exact h1
 ·exact bits_Div64 hi lo y (by omega) h hl hy w
theorem words_of (p:Nat):p / 18446744073709551616*18446744073709551616+p % 18446744073709551616=p:=by
 have:=Nat.div_add_mod p 18446744073709551616;omega
theorem signed_int (n:Nat) (x:Int) (hx:x=n) (h:n<18446744073709551616) (low:Bool) (w:World):Calls prog 272 #[.int .u64 x,.bool low] w fun e w'=>e=.returned (.tuple #[.int .i64 (signX n low).1,.int .i64 (signX n low).2])/\w=w':=by
 subst hx;exact dec_signed n h low w
theorem div_words (hi lo y q r:Nat) (h:hi<y) (hl:lo<18446744073709551616) (hy:y<18446744073709551616) (hq:(hi*18446744073709551616+lo) / y=q) (hr:(hi*18446744073709551616+lo) % y=r) (w:World):Rt 304 #[.int .u64 hi,.int .u64 lo,.int .u64 y] w (.tuple #[.int .u64 q,.int .u64 r]):=by
 have h1:=Div64 hi lo y h hl hy w;rw[hq,hr] at h1;exact h1
theorem div_scale (hi lo q r:Nat) (h:hi<10000) (hl:lo<18446744073709551616) (hq:(hi*18446744073709551616+lo) / 10000=q) (hr:(hi*18446744073709551616+lo) % 10000=r) (w:World):Rt 304 #[.int .u64 hi,.int .u64 lo,.int .u64 10000] w (.tuple #[.int .u64 q,.int .u64 r]):=by
 obtain⟨y,hy⟩:∃ y:Nat,y=10000:=⟨_,rfl⟩
 rw[<- hy] at h hq hr;have h1:=div_words hi lo y q r h hl (by omega) hq hr w;rw[show ((y:Nat):Int)=10000 by omega] at h1;exact h1
theorem dec_Mul (a b:Int) (ha:Is64 a) (hb:Is64 b) (w:World):Rt 301 #[.int .i64 a,.int .i64 b] w (.tuple #[.int .i64 (mulX a b).1,.int .i64 (mulX a b).2]):=by
 by_cases h1:a=minI
 rw[show mulX a b=(0,2) from if_pos (.inl h1)];clear ha hb
 rotate_left
 by_cases h2:b=minI
 rw[show mulX a b=(0,2) from if_pos (.inr h2)];have m1:(a != minI)=true:=by simp[h1]
 clear ha hb
 rotate_left
 have na:=natAbs_lt ha;have nb:=natAbs_lt hb;have e:mulX a b=if 10000<=a.natAbs*b.natAbs / 18446744073709551616 then (0,2) else signX (upX (a.natAbs*b.natAbs / 10000) (decide (5000<=a.natAbs*b.natAbs % 10000))) (lowX a != lowX b):=if_neg (fun h=>h.elim h1 h2);have m1:(a != minI)=true:=by simp[h1]
 have m2:(b != minI)=true:=by simp[h2]
 obtain⟨m,hm⟩:=lt_ a.natAbs;obtain⟨n,hn⟩:=lt_ b.natAbs;rw[hm] at na e;rw[hn] at nb e;have hp:=words_of (m*n);have hl:m*n % 18446744073709551616<18446744073709551616:=Nat.mod_lt _ (by decide);obtain⟨hi,hc⟩:=lt_ (m*n / 18446744073709551616);obtain⟨lo,hd⟩:=lt_ (m*n % 18446744073709551616);rw[hc,hd] at hp;rw[hc] at e;rw[hd] at hl;rw[<- hp] at e;obtain⟨lw,he⟩:=lt_ (lowX a != lowX b);rw[he] at e;have HM:=zh hm;have HN:=zh hn;have hg:=zh hc;have hh:=zh hd;have HA:=zh ha;have HB:=zh hb;have NA:=zh (show m<18446744073709551616 by omega);have NB:=zh (show n<18446744073709551616 by omega);have HL:=zh hl;clear hm hn hc hd ha hb na nb hl hp;by_cases c1:10000<=hi
 rw[if_pos c1] at e;rw[e];have c1i:(10000:Int)<=hi:=by omega
 clear c1 e h1 h2
 rotate_left
 rw[if_neg c1] at e;have hf:(hi*18446744073709551616+lo) / 10000<18446744073709551616:=by have:=HL.out;omega
 obtain⟨q,hq⟩:=lt_ ((hi*18446744073709551616+lo) / 10000);obtain⟨r,hr⟩:=lt_ ((hi*18446744073709551616+lo) % 10000);rw[hq,hr] at e;rw[hq] at hf;rw[e];have HQ:=zh hq;have HR:=zh hr;have C1:=zh (show hi<10000 by omega);have Q1:=zh hf;have c1i: ¬ (10000:Int)<=hi:=by omega
 clear c1 e hq hr hf h1 h2;by_cases c2:5000<=r
 have c2i:(5000:Int)<=r:=by omega
 by_cases c3:q<=9223372036854775807
 ·have c3i:(q:Int)<=9223372036854775807:=by omega
  rw[show upX q (decide (5000<=r))=q+1 by simp[upX,c2,c3]];obtain⟨q2,hj⟩:=lt_ (q+1);have w2:IntKind.u64.wrap ((q:Int)+1)=(q2:Int):=by rw[IntKind.wrap_u64];omega
  have Q2:=zh (show q2<18446744073709551616 by omega);rw[hj];clear c2 c3 hj;go_enter func301,ntmps301;go_wp2_with(first
   | (go_at_call 86;refine(zAX _ _).mono ?_;rintro e w1 ⟨rfl,rfl⟩)
   | (go_at_call_of 270 (Value.int .i64 a);refine(zBP a HA.out _).mono ?_;rw[HM.out];rintro e w1 ⟨rfl,rfl⟩)
   | (go_at_call_of 270 (Value.int .i64 b);refine(zBP b HB.out _).mono ?_;rw[HN.out];rintro e w1 ⟨rfl,rfl⟩)
   | (go_at_call 271;refine(Tryz.bits_Mul64 m n NA.out NB.out _).mono ?_;rw[hg.out,hh.out];rintro e w1 ⟨rfl,rfl⟩)
   | (go_at_call 304;refine mB (div_scale hi lo q r C1.out HL.out HQ.out HR.out _) ?_;intro l1 l2)
   | (go_at_call 272;rw[show (!lowX a==lowX b)=lw from he];refine(dec_signed q2 Q2.out lw _).mono ?_;rintro e w1 ⟨rfl,rfl⟩))
  go_ret2
  exact rb_
 have c3i: ¬ (q:Int)<=9223372036854775807:=by omega
 rw[show upX q (decide (5000<=r))=q by simp[upX,c2,c3]];clear c2 c3
 rotate_left
 have c2i: ¬ (5000:Int)<=r:=by omega
 rw[show upX q (decide (5000<=r))=q by simp[upX,c2]];clear c2;all_goals
  go_enter func301,ntmps301;go_wp2_with(first|(go_at_call 86;refine(zAX _ _).mono ?_;rintro e w1 ⟨rfl,rfl⟩)|(go_at_call_of 270 (Value.int .i64 a);refine(zBP a HA.out _).mono ?_;rw[HM.out];rintro e w1 ⟨rfl,rfl⟩)|(go_at_call_of 270 (Value.int .i64 b);refine(zBP b HB.out _).mono ?_;rw[HN.out];rintro e w1 ⟨rfl,rfl⟩)|(go_at_call 271;refine(Tryz.bits_Mul64 m n NA.out NB.out _).mono ?_;rw[hg.out,hh.out];rintro e w1 ⟨rfl,rfl⟩)|(go_at_call 304;refine mB (div_scale hi lo q r C1.out HL.out HQ.out HR.out _) ?_;intro l1 l2)|(go_at_call 272;rw[show (!lowX a==lowX b)=lw from he];refine(dec_signed q Q1.out lw _).mono ?_;rintro e w1 ⟨rfl,rfl⟩))
  go_ret2
  exact rb_
end Go.Proofs.YtnccknhbplaieaaGreatDoor
namespace Go.Proofs
open Go.Shelf
def Tryz.lays105_ren:Go.Shelf.Ren:=⟨fun|105=>221|212=>290|99=>291|165=>292|166=>288|170=>287|169=>289|263=>326|264=>271|206=>327|240=>325|241=>328|276=>348|277=>349|n=>n,fun|9=>9|3=>3|4=>4|20=>20|0=>0|46=>198|109=>255|5=>5|72=>246|76=>252|51=>35|146=>282|53=>133|148=>231|70=>244|37=>98|75=>251|127=>281|164=>228|80=>254|n=>n,fun|n=>n⟩
theorem Tryz.lays105:Go.Proofs.Lays.n105 Tryz.prog Tryz.lays105_ren:= {
 mixed:=by kernel_rfl
 f99:=Tryz.func291.trans (congrArg some (by kernel_rfl))
 f105:=Tryz.func221.trans (congrArg some (by kernel_rfl))
 f165:=Tryz.func292.trans (congrArg some (by kernel_rfl))
 f166:=Tryz.func288.trans (congrArg some (by kernel_rfl))
 f169:=Tryz.func289.trans (congrArg some (by kernel_rfl))
 f170:=Tryz.func287.trans (congrArg some (by kernel_rfl))
 f206:=Tryz.func327.trans (congrArg some (by kernel_rfl))
 f212:=Tryz.func290.trans (congrArg some (by kernel_rfl))
 f240:=Tryz.func325.trans (congrArg some (by kernel_rfl))
 f241:=Tryz.func328.trans (congrArg some (by kernel_rfl))
 f263:=Tryz.func326.trans (congrArg some (by kernel_rfl))
 f264:=Tryz.func271.trans (congrArg some (by kernel_rfl))
 f276:=Tryz.func348.trans (congrArg some (by kernel_rfl))
 f277:=Tryz.func349.trans (congrArg some (by kernel_rfl))
 t0:=Tryz.underlying0
 a0:=Tryz.isAgg0
 z0:=Tryz.sizeOf0
 v0:=Tryz.zeroValue0
 t3:=Tryz.underlying3
 a3:=Tryz.isAgg3
 z3:=Tryz.sizeOf3
 v3:=Tryz.zeroValue3
 t4:=Tryz.underlying4
 a4:=Tryz.isAgg4
 z4:=Tryz.sizeOf4
 v4:=Tryz.zeroValue4
 t5:=Tryz.underlying5
 a5:=Tryz.isAgg5
 z5:=Tryz.sizeOf5
 v5:=Tryz.zeroValue5
 t9:=Tryz.underlying9
 a9:=Tryz.isAgg9
 z9:=Tryz.sizeOf9
 v9:=Tryz.zeroValue9
 t20:=Tryz.underlying20
 a20:=Tryz.isAgg20
 z20:=Tryz.sizeOf20
 v20:=Tryz.zeroValue20
 t37:=Tryz.underlying98
 a37:=Tryz.isAgg98
 z37:=Tryz.sizeOf98
 v37:=Tryz.zeroValue98
 t46:=Tryz.underlying198
 a46:=Tryz.isAgg198
 z46:=Tryz.sizeOf198
 v46:=Tryz.zeroValue198
 t51:=Tryz.underlying35
 a51:=Tryz.isAgg35
 z51:=Tryz.sizeOf35
 v51:=Tryz.zeroValue35
 t53:=Tryz.underlying133
 a53:=Tryz.isAgg133
 z53:=Tryz.sizeOf133
 v53:=Tryz.zeroValue133
 t70:=Tryz.underlying244
 a70:=Tryz.isAgg244
 z70:=Tryz.sizeOf244
 v70:=Tryz.zeroValue244
 t72:=Tryz.underlying246
 a72:=Tryz.isAgg246
 z72:=Tryz.sizeOf246
 v72:=Tryz.zeroValue246
 t75:=Tryz.underlying251
 a75:=Tryz.isAgg251
 z75:=Tryz.sizeOf251
 v75:=Tryz.zeroValue251
 t76:=Tryz.underlying252
 a76:=Tryz.isAgg252
 z76:=Tryz.sizeOf252
 v76:=Tryz.zeroValue252
 t109:=Tryz.underlying255
 a109:=Tryz.isAgg255
 z109:=Tryz.sizeOf255
 v109:=Tryz.zeroValue255
 t127:=Tryz.underlying281
 a127:=Tryz.isAgg281
 z127:=Tryz.sizeOf281
 v127:=Tryz.zeroValue281
 t146:=Tryz.underlying282
 a146:=Tryz.isAgg282
 z146:=Tryz.sizeOf282
 v146:=Tryz.zeroValue282
 t148:=Tryz.underlying231
 a148:=Tryz.isAgg231
 z148:=Tryz.sizeOf231
 v148:=Tryz.zeroValue231
 t164:=Tryz.underlying228
 a164:=Tryz.isAgg228
 z164:=Tryz.sizeOf228
 v164:=Tryz.zeroValue228 }
theorem Tryz.Builder_Extra_105:Builder.Extra Tryz.prog Tryz.lays105_ren:= {
 sizeBuilder:=by kernel_rfl
 liesBuilder:=by kernel_rfl
 t5:=Tryz.underlying5
 a5:=Tryz.isAgg5
 z5:=Tryz.sizeOf5
 v5:=Tryz.zeroValue5
 infoByte:=by kernel_rfl
 cellsByte:=by kernel_rfl
 sizeByte:=by kernel_rfl
 neB5:=by decide }
open Go.RowKit Go.Lib in
theorem Tryz.strings_Repeat_main (s:ByteArray) (c:Nat) (w:World) (hc2:2<=c) (hc:c<=9223372036854775807) (hlen:s.size*c<=140737488355328) (h0:0<s.size) :
 Calls Tryz.prog 221 #[.string s,.int .i64 c] w fun e w'=>e=.returned (.string ⟨(Lib.repeatL s.data.toList c).toArray⟩)/\Below w.heap.size w w':=Any.strings_Repeat_main Tryz.lays105 Tryz.Builder_Extra_105 s c w hc2 hc hlen h0
end Go.Proofs
namespace Go.Proofs.YtnccknhbplaieaaGreatDoor
open Go Go.RowKit Go.Proofs.Tryz
def projT:Value->Option (ByteArray×Int)
 | .agg ⟨[.string s,.int _ a,_]⟩=>some (s,a)
 | _=>none
def projTF:Value->Option Value
 | .agg ⟨[_,_,f]⟩=>some f
 | _=>none
def zAT (s:ByteArray):Option (ByteArray×Int) :=
 if (⟨#[78,85,77]⟩:ByteArray)=s then some (⟨#[115]⟩,1) else
 if (⟨#[82,69,86]⟩:ByteArray)=s then some (⟨#[115]⟩,1) else
 if (⟨#[69,88,65,67,84]⟩:ByteArray)=s then some (⟨#[115,115]⟩,2) else
 if (⟨#[67,72,65,82]⟩:ByteArray)=s then some (⟨#[110]⟩,1) else
 if (⟨#[79,82,68]⟩:ByteArray)=s then some (⟨#[115]⟩,1) else
 if (⟨#[67,79,78,67,65,84]⟩:ByteArray)=s then some (⟨#[115,115,115,115,115,115,115,115,115,115,115,115,115,115,115,115]⟩,1) else
 if (⟨#[83,85,66,83,84]⟩:ByteArray)=s then some (⟨#[115,115,115]⟩,3) else
 if (⟨#[70,73,78,68]⟩:ByteArray)=s then some (⟨#[115,115,110]⟩,2) else
 if (⟨#[82,69,80,84]⟩:ByteArray)=s then some (⟨#[115,110]⟩,2) else
 if (⟨#[84,82,73,77]⟩:ByteArray)=s then some (⟨#[115]⟩,1) else
 if (⟨#[76,79,87,69,82]⟩:ByteArray)=s then some (⟨#[115]⟩,1) else
 if (⟨#[85,80,80,69,82]⟩:ByteArray)=s then some (⟨#[115]⟩,1) else
 if (⟨#[77,73,68]⟩:ByteArray)=s then some (⟨#[115,110,110]⟩,3) else
 if (⟨#[82,73,71,72,84]⟩:ByteArray)=s then some (⟨#[115,110]⟩,1) else
 if (⟨#[76,69,70,84]⟩:ByteArray)=s then some (⟨#[115,110]⟩,1) else
 if (⟨#[76,69,78]⟩:ByteArray)=s then some (⟨#[115]⟩,1) else none
def textFn (p q:Nat) (s:ByteArray):Option Value :=
 if (⟨#[78,85,77]⟩:ByteArray)=s then some (.func (.func 227) #[] #[]) else
 if (⟨#[82,69,86]⟩:ByteArray)=s then some (.func (.func 282) #[] #[.pointer (some ⟨q,0,none⟩)]) else
 if (⟨#[69,88,65,67,84]⟩:ByteArray)=s then some (.func (.func 225) #[] #[]) else
 if (⟨#[67,72,65,82]⟩:ByteArray)=s then some (.func (.func 224) #[] #[]) else
 if (⟨#[79,82,68]⟩:ByteArray)=s then some (.func (.func 223) #[] #[]) else
 if (⟨#[67,79,78,67,65,84]⟩:ByteArray)=s then some (.func (.func 222) #[] #[]) else
 if (⟨#[83,85,66,83,84]⟩:ByteArray)=s then some (.func (.func 220) #[] #[]) else
 if (⟨#[70,73,78,68]⟩:ByteArray)=s then some (.func (.func 219) #[] #[]) else
 if (⟨#[82,69,80,84]⟩:ByteArray)=s then some (.func (.func 218) #[] #[]) else
 if (⟨#[84,82,73,77]⟩:ByteArray)=s then some (.func (.func 282) #[] #[.pointer (some ⟨p+3,0,none⟩)]) else
 if (⟨#[76,79,87,69,82]⟩:ByteArray)=s then some (.func (.func 282) #[] #[.pointer (some ⟨p+2,0,none⟩)]) else
 if (⟨#[85,80,80,69,82]⟩:ByteArray)=s then some (.func (.func 282) #[] #[.pointer (some ⟨p+1,0,none⟩)]) else
 if (⟨#[77,73,68]⟩:ByteArray)=s then some (.func (.func 212) #[] #[]) else
 if (⟨#[82,73,71,72,84]⟩:ByteArray)=s then some (.func (.func 211) #[] #[]) else
 if (⟨#[76,69,70,84]⟩:ByteArray)=s then some (.func (.func 210) #[] #[]) else
 if (⟨#[76,69,78]⟩:ByteArray)=s then some (.func (.func 208) #[] #[]) else none
def TextCells (p q:Nat) (w':World):Prop:=w'.cell? ⟨p+1,0,none⟩=some (.func (.func 214) #[] #[])/\w'.cell? ⟨p+2,0,none⟩=some (.func (.func 216) #[] #[]) /\
 w'.cell? ⟨p+3,0,none⟩=some (.func (.func 217) #[] #[])/\w'.cell? ⟨q,0,none⟩=some (.func (.func 226) #[] #[])
def TextFound (s:ByteArray) (c:ByteArray) (x:Int) (e:Ending) (w':World):Prop:=∃ fn first cap,e=.returned (.tuple #[.agg #[.string c,.int .i64 x,.func fn first cap],.bool true]) /\
 ∃ p q,textFn p q s=some (.func fn first cap)/\TextCells p q w'
def TextMissed (e:Ending):Prop:=e=.returned (.tuple #[.agg #[.string ⟨#[]⟩,.int .i64 0,.nilFunc],.bool false])
def TextPost (s:ByteArray) (e:Ending) (w':World):Prop:=(∃ c x,zAT s=some (c,x)/\TextFound s c x e w')∨(zAT s=none/\TextMissed e)
theorem rep16 (w:World):Rt 221 #[.string ⟨#[115]⟩,.int .i64 16] w (.string ⟨#[115,115,115,115,115,115,115,115,115,115,115,115,115,115,115,115]⟩) :=
 Tryz.strings_Repeat_main ⟨#[115]⟩ 16 w (by decide) (by decide) (by decide) (by decide)
theorem texts_find0 (s:ByteArray) (w:World):Calls prog 149 #[.string s] w fun e w'=>TextPost s e w'/\Below w.heap.size w w':=by
 have hmk:∀ w,(Instr.makeMap 210 none).run prog w=.ok (.map (some w.heap.size)) (zAE (w.alloc (.map #[] 0)) w.heap.size []):=fun w=>run_makeMapS w _;have hst:∀ (w:World) (b:Nat) (L:List (ByteArray×Value)) (s:ByteArray) (v:Value),b<w.heap.size->(Instr.mapUpdate 210 (.map (some b)) (.string s) v).run prog (zAE w b L)=.ok () (zAE w b (ups s v L)):=fun w b L s v h=>run_storeS underlying9 underlying210 w h s v L;have hh:∀ (w:World) (l:List Obj) (n:Nat) (o:Obj) (b:Nat) (L:List (ByteArray×Value)) (s:ByteArray) (v:Value),b<w.heap.size->(Instr.mapUpdate 210 (.map (some b)) (.string s) v).run prog (zAE ((more w l n).alloc o) b L)=.ok () (zAE ((more w l n).alloc o) b (ups s v L)):=fun w l n o b L s v h=>run_storeS underlying9 underlying210 _ (by simp;omega) s v L;have ha:∀ l:List Obj,w.heap.size<w.heap.size+1+1+1+1+1+l.length:=fun l=>by omega
 have hb:∀ l:List Obj,w.heap.size+1<w.heap.size+1+1+1+1+1+l.length:=fun l=>by omega
 have hc:∀ l:List Obj,w.heap.size<=w.heap.size+1+1+1+1+1+l.length:=fun l=>by omega
 have hd:∀ l:List Obj,w.heap.size+1<=w.heap.size+1+1+1+1+1+l.length:=fun l=>by omega
 have he:∀ l:List Obj,¬ w.heap.size=w.heap.size+1+1+1+1+1+l.length:=fun l=>by omega
 have hf:∀ l:List Obj,¬ w.heap.size+1=w.heap.size+1+1+1+1+1+l.length:=fun l=>by omega
 have hg:∀ l:List Obj,¬ w.heap.size+1=w.heap.size+1+1+1+1+1+l.length+1:=fun l=>by omega
 go_enter func149,ntmps149;go_wp2_with(first|(go_at_call 213;go_in)|(go_at_call 221;refine mB (rep16 _) ?_;intro l n)|(at_lookup;refine wpList_lookT rfl 210 _ _ rfl 9 174 underlying9 underlying210 (.agg #[.string ⟨#[]⟩,.int .i64 0,.nilFunc]) (fun w=>by kernel_rfl) _ _ _ rfl (by simp;omega) _ rfl ?_ ?_ ?_))
 ·repeat(with_reducible refine AllV.ups ?_ (funT _ _ _ _ _))
  exact AllV.nil _
 ·intro c x fn first cap hv
  go_wp2;refine bodyPost_ret (by simp[results,results149,go_sem,ha,hb,hc,hd,he,hf,hg];try rfl) rfl ?_;refine⟨.inl ⟨c,x,?_,fn,first,cap,rfl,w.heap.size+1,w.heap.size+1+1+1+1+1+l.length,?_,?_⟩,?_⟩
  ·have h:=congrArg (fun o=>o.bind projT) hv.out;simp only[bind_ups,bind_nil] at h;exact h
  ·have h:=congrArg (fun o=>o.bind projTF) hv.out;simp only[bind_ups,bind_nil] at h;exact h
  ·clear hv;refine⟨?_,?_,?_,?_⟩
   iterate 3
    ·rw[setMap_cell (by omega),World.cell?_alloc_past _ _ _ (by simp only[World.size_alloc,zBo];omega),World.cell?_alloc_past _ _ _ (by simp only[World.size_alloc,zBo];omega),more_cell (by simp only[World.size_alloc,zBo];omega)];go_simp
   ·rw[setMap_cell (by omega),World.cell?_alloc_past _ _ _ (by simp only[World.size_alloc,zBo];omega),World.cell?_alloc_at _ _ _ _ (by simp only[World.size_alloc,zBo])]
    rfl
  ·refine zBk ?_ (by simp);exact bel
 ·intro hv;go_wp2;refine bodyPost_ret (by simp[results,results149,go_sem,ha,hb,hc,hd,he,hf,hg];try rfl) rfl ?_;refine⟨.inr ⟨?_,rfl⟩,?_⟩
  ·have h:=congrArg (fun o=>o.bind projT) hv.out;simp only[bind_ups,bind_nil] at h;exact h
  ·refine zBk ?_ (by simp);exact bel
theorem zBu (s:ByteArray) (c:ByteArray) (x:Int) (h:zAT s=some (c,x)) (w:World):Calls prog 149 #[.string s] w fun e w'=>TextFound s c x e w'/\Below w.heap.size w w' :=
 (texts_find0 s w).mono fun e w' ⟨hp,hb⟩=>by
  rcases hp with ⟨c',x',h',hf⟩|⟨h',_⟩
  ·rw[h] at h';cases h';exact⟨hf,hb⟩
  ·rw[h] at h';cases h'
theorem texts_find_no (s:ByteArray) (h:zAT s=none) (w:World):Calls prog 149 #[.string s] w fun e w'=>TextMissed e/\Below w.heap.size w w' :=
 (texts_find0 s w).mono fun e w' ⟨hp,hb⟩=>by
  rcases hp with ⟨c',x',h',hf⟩|⟨_,hm⟩
  ·rw[h] at h';cases h'
  ·exact⟨hm,hb⟩
end Go.Proofs.YtnccknhbplaieaaGreatDoor
namespace Go.Proofs.YtnccknhbplaieaaGreatDoor
open Go Go.RowKit Go.Sort Go.Lib
open Go.Lib renaming hid->zh
def Pow10 (w:World):Prop:=Lib.TabIs Tryz.prog w "internal/strconv.uint64pow10" .u64 Lib.pow10Tab
theorem global_pow10:Tryz.prog.globalNamed "internal/strconv.uint64pow10" =some 3:=by kernel_rfl
theorem Pow10.lt {w:World} (h:Pow10 w):3<w.heap.size:=by
 unfold Pow10 Lib.TabIs World.var? at h;rw[global_pow10] at h;rcases Nat.lt_or_ge 3 w.heap.size with h'|h'
 ·exact h'
 ·simp only[Option.bind_some] at h;rw[Array.getElem?_eq_none h'] at h;simp at h
theorem Pow10.same {w w':World} (h:Pow10 w) (hs:w'.heap[3]? =w.heap[3]?):Pow10 w':=by
 unfold Pow10 Lib.TabIs World.var? at *;rw[global_pow10] at *;simp only[Option.bind_some] at *;rw[hs];exact h
theorem Pow10.below {w w':World} (h:Pow10 w) {B:Nat} (hb:Below B w w') (hB:w.heap.size<=B):Pow10 w':=h.same (hb.block _ (Nat.lt_of_lt_of_le h.lt hB))
set_option maxHeartbeats 6400000 in
theorem FormatUint_big (u:Nat) (hu:100<=u) (hu64:u<18446744073709551616) (w:World) (htab:Pow10 w):Rt 332 #[.int .u64 u,.int .i64 10] w (.string ⟨(Lib.decDigits u).toArray⟩):=by
 have he:1<=u:=by omega
 have hd:Lib.nDigits u<=20:=by have:=Lib.numDigits_eq u he hu64;split at this<;>omega
 have hc:Tryz.prog.arrayLen 307=24:=by kernel_rfl
 have hsl:∀ W,(Instr.sliceAt 307 (.pointer (some ⟨w.heap.size,0,none⟩)) none (some (.int .i64 (Lib.nDigits u:Int))) none).run Tryz.prog W=.ok (.slice (some ⟨w.heap.size,0,none⟩) (Lib.nDigits u) 24) W:=fun W=>by
  rw[run_sliceAt_array_h W 307 ⟨w.heap.size,0,none⟩ (by kernel_rfl) .i64 (Lib.nDigits u:Int) (by omega) (by rw[hc];omega)];go_simp
 have hb:=Lib.holds_zero0 w 307 (Lib.nDigits u) (by omega);have ha:=Tryz.internal_strconv_formatBase10 w.heap.size 0 24 u (Array.replicate (Lib.nDigits u) 0) (w.alloc (.cells Lib.zeros24 307)) hb (by rw[Array.size_replicate];exact Lib.lt_pow_nDigits u) hu64 (by rw[Array.size_replicate];omega);rw[Array.size_replicate] at ha;have hf:=zh hb;have iu: ¬ ((u:Int)<100):=by omega
 clear hb hc;go_enter Tryz.func332,Tryz.ntmps332;go_wp2_with(first
  | (go_at_call 355;refine(Tryz.internal_strconv_numDigits u he hu64 _ (Lib.tabIs_alloc htab _)).mono ?_;rintro e w' ⟨rfl,rfl⟩))
 go_at_call 356
 refine ha.mono ?_;rintro e w' ⟨rfl,k,v',dk,rfl,hF⟩;have hcv:(convert 98 9 (.slice (some ⟨w.heap.size,0,none⟩) (Lib.nDigits u) 24)).run Tryz.prog ((putRow (fun (b:UInt8)=>Value.int .u8 (b.toNat:Int)) (w.alloc (.cells Lib.zeros24 307)) w.heap.size 0 dk).drewN k)=.ok (.string ⟨(Lib.decDigits u).toArray⟩) ((putRow (fun (b:UInt8)=>Value.int .u8 (b.toNat:Int)) (w.alloc (.cells Lib.zeros24 307)) w.heap.size 0 dk).drewN k):=by
  have h:=run_convert_bytes_back (P:=Tryz.prog) ((putRow (fun (b:UInt8)=>Value.int .u8 (b.toNat:Int)) (w.alloc (.cells Lib.zeros24 307)) w.heap.size 0 dk).drewN k) 98 9 5 ⟨w.heap.size,0,none⟩ 24 (Lib.decDigits u) Tryz.underlying98 Tryz.underlying5 Tryz.underlying9 (fun j hj=>by
   rw[Lib.row_is_numeral hF j hj,Lib.add_plain,World.cell?_drewN];exact cell?_putRow (fun (b:UInt8)=>Value.int .u8 (b.toNat:Int)) _ w.heap.size 0 _ dk hf.out (by rw[hF.size,Array.size_replicate]) j (by rw[hF.size];rw[Lib.decDigits_length] at hj;exact hj))
  rw[Lib.decDigits_length] at h;exact h
 go_wp2;go_ret;obtain⟨os,eo⟩:=Lib.fin_at w (.cells Lib.zeros24 307) dk k 0;refine⟨rfl,?_⟩;rw[eo];exact Lib.below_grow w.heap.size w (Nat.le_refl _) k os
theorem FormatUint (u:Nat) (hu64:u<18446744073709551616) (w:World) (htab:Pow10 w):Rt 332 #[.int .u64 u,.int .i64 10] w (.string ⟨(Lib.decDigits u).toArray⟩):=by
 by_cases hu:100<=u
 ·exact FormatUint_big u hu hu64 w htab
 ·have iu:(u:Int)<100:=by omega
  go_enter Tryz.func332,Tryz.ntmps332;go_wp2_with(go_at_call 354;refine(Tryz.internal_strconv_small u (by omega) _).mono ?_;rintro e w' ⟨rfl,rfl⟩)
  go_ret;exact rb_
theorem strconv_FormatUint (u:Nat) (hu64:u<18446744073709551616) (w:World) (htab:Pow10 w):Rt 295 #[.int .u64 u,.int .i64 10] w (.string ⟨(Lib.decDigits u).toArray⟩):=by
 go_enter Tryz.func295,Tryz.ntmps295;go_wp2_with(go_at_call 332;refine(FormatUint u hu64 _ (htab.below bel (Nat.le_refl _))).mono ?_;rintro e w' ⟨rfl,hb⟩;obtain⟨l1,l2,rfl⟩:=zA0 hb;clear hb)
 go_ret;exact rb_
end Go.Proofs.YtnccknhbplaieaaGreatDoor
namespace Go.Proofs.YtnccknhbplaieaaGreatDoor
open Go Go.RowKit Go.Proofs.Tryz
open Go.Lib renaming hid->zh
def numS (n:Nat):ByteArray:=⟨(Lib.decDigits n).toArray⟩
def fracS (r:Nat):ByteArray:=⟨(Lib.trimRightB (((numS (10000+r)).extract 1 (numS (10000+r)).size).data.toList) 48).toArray⟩
def headS (x:Int):ByteArray:=if x<0 then (⟨#[45]⟩:ByteArray)++numS (x.natAbs / 10000) else numS (x.natAbs / 10000)
def printS (x:Int):ByteArray:=if x=minI then ⟨#[]⟩ else if x.natAbs % 10000=0 then headS x else headS x++((⟨#[46]⟩:ByteArray)++fracS (x.natAbs % 10000))
def zAZ (v:V):ByteArray×Int:=if mayG v=false then (⟨#[]⟩,8) else if v.tag=4 then (⟨#[]⟩,v.code) else if v.tag=1 then (printS v.num,0) else if v.tag=3 then (if v.is then ⟨#[84,82,85,69]⟩ else ⟨#[70,65,76,83,69]⟩,0) else (v.str,0)
theorem size_mk (l:List UInt8):(⟨l.toArray⟩:ByteArray).size=l.length:=List.size_toArray
theorem zAe (b:ByteArray):b.data.toList.length=b.size:=Array.length_toList
theorem numS_len (n:Nat):(numS n).size=Lib.nDigits n:=by
 rw[<- Lib.decDigits_length];exact size_mk _
theorem numS_le (n:Nat) (h:n<18446744073709551616):(numS n).size<=20:=by
 rw[numS_len];by_cases h0:n=0
 ·rw[Lib.nDigits_small (by omega)]
  decide
 ·have:=Lib.numDigits_eq n (by omega) h;split at this<;>omega
theorem numS_pos (n:Nat) (h:1<=n):1<=(numS n).size:=by
 rw[numS_len];rcases Nat.eq_zero_or_pos (Lib.nDigits n) with h0|h0
 ·have:=Lib.lt_pow_nDigits n;rw[h0] at this;omega
 ·exact h0
theorem trim_le (l:List UInt8) (c:UInt8):(Lib.trimRightB l c).length<=l.length:=by
 unfold Lib.trimRightB;rw[List.length_reverse];exact Nat.le_trans (List.IsSuffix.length_le (List.dropWhile_suffix _)) (by rw[List.length_reverse];exact Nat.le_refl _)
theorem fracS_le (r:Nat) (h:r<10000):(fracS r).size<=20:=by
 have h1:(fracS r).size=(Lib.trimRightB (((numS (10000+r)).extract 1 (numS (10000+r)).size).data.toList) 48).length:=size_mk _;have h2:=trim_le (((numS (10000+r)).extract 1 (numS (10000+r)).size).data.toList) 48;have h3:(((numS (10000+r)).extract 1 (numS (10000+r)).size).data.toList).length=((numS (10000+r)).extract 1 (numS (10000+r)).size).size:=zAe _;have h4:=numS_le (10000+r) (by omega);rw[ByteArray.size_extract] at h3;omega
theorem fmt_num (u:Nat) (hu64:u<18446744073709551616) (w:World) (htab:Pow10 w):Rt 295 #[.int .u64 u,.int .i64 10] w (.string (numS u)):=by
 unfold numS;exact strconv_FormatUint u hu64 w htab
theorem trim_num (r z:Nat) (hz:10000+r=z) (hr:r<10000) (w:World):Calls prog 296 #[.string ((numS z).extract 1 (numS z).size),.string ⟨#[48]⟩] w fun e w'=>e=.returned (.string (fracS r))/\w'=w:=by
 subst hz;have h4:=numS_le (10000+r) (by omega);have h5:((numS (10000+r)).extract 1 (numS (10000+r)).size).size<=9223372036854775807:=by
  rw[ByteArray.size_extract];omega
 have h6:=Tryz.strings_TrimRight_one ((numS (10000+r)).extract 1 (numS (10000+r)).size) 48 (by decide) w h5;have e:fracS r=⟨(Lib.trimRightB (((numS (10000+r)).extract 1 (numS (10000+r)).size).data.toList) 48).toArray⟩:=rfl;rw[e];exact h6
theorem dec_Print (x:Int) (h:Is64 x) (w:World) (hp:Pow10 w):Rt 228 #[.int .i64 x] w (.string (printS x)):=by
 by_cases h1:x=minI
 ·rw[show printS x=⟨#[]⟩ from if_pos h1];clear h;go_enter func228,ntmps228;go_wp2_with(go_at_call 86;refine(zAX _ _).mono ?_;rintro e w1 ⟨rfl,rfl⟩)
  go_ret;exact rb_
 have m1:(x != minI)=true:=by simp[h1]
 have na:=natAbs_lt h;have es:printS x=if x.natAbs % 10000=0 then headS x else headS x++((⟨#[46]⟩:ByteArray)++fracS (x.natAbs % 10000)):=if_neg h1;have eh:headS x=if x<0 then (⟨#[45]⟩:ByteArray)++numS (x.natAbs / 10000) else numS (x.natAbs / 10000):=rfl;obtain⟨n,hn⟩:=lt_ x.natAbs;rw[hn] at na es eh;obtain⟨k,hk⟩:=lt_ (n / 10000);obtain⟨r,hr⟩:=lt_ (n % 10000);rw[hk] at eh;rw[hr] at es;have k1:(n:Int) / 10000=(k:Int):=by omega
 have k2:(n:Int) % 10000=(r:Int):=by omega
 have k3:IntKind.u64.wrap (k:Int)=(k:Int):=by rw[IntKind.wrap_u64];omega
 obtain⟨z,hz⟩:=lt_ (10000+r);have k4:IntKind.u64.wrap (10000+(r:Int))=(z:Int):=by rw[IntKind.wrap_u64];omega
 have KZ:=zh (show z<18446744073709551616 by omega);have KK:=zh (show k<18446744073709551616 by omega);have sk:=numS_le k (by omega);have sz:=numS_le z (by omega);have sz1:=numS_pos z (by omega);have sr:=fracS_le r (by omega);have HR:=zh (show r<10000 by omega);obtain⟨tk,hd⟩:=lt_ (numS k);obtain⟨tz,hc⟩:=lt_ (numS z);obtain⟨tf,ha⟩:=lt_ (fracS r);rw[hd] at eh sk;rw[hc] at sz sz1;rw[ha] at es sr;have he:=zh hd;have hg:=zh hc;have hh:=zh ha;have hf:=zh (show ∀ w,Calls prog 296 #[.string (tz.extract 1 tz.size),.string ⟨#[48]⟩] w fun e w'=>e=.returned (.string tf)/\w'=w from fun w=>by have h:=trim_num r z hz (by omega) w;rw[hc,ha] at h;exact h);clear hd hc ha;have HZ:=zh hz;have HN:=zh hn;have HX:=zh h;have ES:=zh es;have EH:=zh eh;have HP:=zh hp;clear hz hn h es eh hp hk hr na;go_enter func228,ntmps228;go_wp2_with(first
  | (go_at_call 86;refine(zAX _ _).mono ?_;rintro e w1 ⟨rfl,rfl⟩)
  | (go_at_call 270;refine(zBP x HX.out _).mono ?_;rw[HN.out];rintro e w1 ⟨rfl,rfl⟩)
  | (go_at_call_of 295 (Value.int .u64 (k:Int));refine(fmt_num k KK.out _ (HP.out.below bel (Nat.le_refl _))).mono ?_;rw[he.out];rintro e w1 ⟨rfl,hb⟩;obtain⟨l1,l2,rfl⟩:=zA0 hb;clear hb)
  | (go_at_call_of 295 (Value.int .u64 (z:Int));refine(fmt_num z KZ.out _ (HP.out.below bel (Nat.le_refl _))).mono ?_;rw[hg.out];rintro e w1 ⟨rfl,hb⟩;obtain⟨l3,l4,rfl⟩:=zA0 hb;clear hb)
  | (go_at_call 296;refine(hf.out _).mono ?_;rintro e w1 ⟨rfl,rfl⟩))
 all_goals go_ret;all_goals refine⟨congrArg (fun s=>Ending.returned (Value.string s)) (?_:_=_),bel⟩;all_goals rw[ES.out,EH.out];all_goals clear hf he hg hh ES EH HP HX HN HZ HR KZ KK;all_goals by_cases hx:x<0;all_goals by_cases hr0:r=0;all_goals simp_all[lowX];all_goals try omega
theorem idx_bool (b:Bool) (w:World):(Instr.index 211 (.agg #[.string ⟨#[70,65,76,83,69]⟩,.string ⟨#[84,82,85,69]⟩]) (.int .i64 (truthI b))).run prog w=.ok (.string (if b then ⟨#[84,82,85,69]⟩ else ⟨#[70,65,76,83,69]⟩)) w:=by
 cases b;all_goals(show _=_;kernel_rfl)
theorem value_AsText (v:V) (h:Is64 v.num) (w:World) (hp:Pow10 w):Rt 151 #[(vG v)] w (.tuple #[.string (zAZ v).1,.int .i64 (zAZ v).2]):=by
 have HP:=zh hp;have HX:=zh h;clear hp h;by_cases hm:mayG v=false
 rw[show zAZ v=(⟨#[]⟩,8) from if_pos hm]
 rotate_left
 have e1:zAZ v=if v.tag=4 then (⟨#[]⟩,v.code) else if v.tag=1 then (printS v.num,0) else if v.tag=3 then (if v.is then ⟨#[84,82,85,69]⟩ else ⟨#[70,65,76,83,69]⟩,0) else (v.str,0):=if_neg hm;replace hm:mayG v=true:=by simpa using hm
 by_cases h4:v.tag=4
 ·rw[e1,if_pos h4];have k4:(v.tag==4)=true:=by simp[h4]
  clear e1 h4;go_enter func151,ntmps151;go_wp2_with(go_at_call 29;refine mB (zB1 v _) ?_;intro l1 l2)
  go_quiet (fail);all_goals go_wp2;all_goals go_ret2;all_goals exact rb_
 rw[if_neg h4] at e1;have k4:(v.tag==4)=false:=by simp[h4]
 by_cases h1:v.tag=1
 rw[e1,if_pos h1];have k1:(v.tag==1)=true:=by simp[h1]
 clear e1 h4 h1
 rotate_left
 rw[if_neg h1] at e1;have k1:(v.tag==1)=false:=by simp[h1]
 by_cases h3:v.tag=3
 ·rw[e1,if_pos h3];have k3:(v.tag==3)=true:=by simp[h3]
  have q:=idx_bool;clear e1 h4 h1 h3;go_enter func151,ntmps151;go_wp2_with(first
   | (go_at_call 29;refine mB (zB1 v _) ?_;intro l1 l2)
   | (go_at_call 207;refine(value_truth _ _).mono ?_;rintro e w1 ⟨rfl,rfl⟩))
  all_goals go_ret2;all_goals exact rb_
 rw[if_neg h3] at e1;have k3:(v.tag==3)=false:=by simp[h3]
 rw[e1];clear e1 h4 h1 h3;all_goals
  go_enter func151,ntmps151;go_wp2_with(first|(go_at_call 29;refine mB (zB1 v _) ?_;intro l1 l2)|(go_at_call 228;refine mB (dec_Print v.num HX.out _ (HP.out.below bel (Nat.le_refl _))) ?_;intro l3 l4))
  go_ret2
  exact rb_
def fracD:Nat->Nat->List UInt8
 | 0,_=>[]
 | f+1,r=>if r=0 then [] else UInt8.ofNat (48+r / 1000)::fracD f (r % 1000*10)
theorem dec4 (r:Nat) (h:r<10000):Lib.decDigits (10000+r)=[49,UInt8.ofNat (48+r / 1000),UInt8.ofNat (48+r / 100 % 10),UInt8.ofNat (48+r / 10 % 10),UInt8.ofNat (48+r % 10)]:=by
 rw[Lib.decDigits,dif_neg (by omega),Lib.decDigits,dif_neg (by omega),Lib.decDigits,dif_neg (by omega),Lib.decDigits,dif_neg (by omega),Lib.decDigits,dif_pos (by omega)];simp only[List.cons_append,List.nil_append]
 congr 1
 ·rw[show (10000+r) / 10 / 10 / 10 / 10=1 by omega];rfl
 ·congr 1
  ·congr 1;omega
  ·congr 1
   ·congr 1;omega
   ·congr 1
    ·congr 1;omega
    ·congr 2;omega
theorem ofNat48 {n:Nat} (h:n<10):(UInt8.ofNat (48+n)==48)=decide (n=0):=by
 have:n=0∨n=1∨n=2∨n=3∨n=4∨n=5∨n=6∨n=7∨n=8∨n=9:=by omega
 rcases this with rfl|rfl|rfl|rfl|rfl|rfl|rfl|rfl|rfl|rfl<;>rfl
theorem frac_of (r:Nat) (h:r<10000):(fracS r).data.toList=fracD 4 r:=by
 unfold fracS;have e:((numS (10000+r)).extract 1 (numS (10000+r)).size).data.toList=[UInt8.ofNat (48+r / 1000),UInt8.ofNat (48+r / 100 % 10),UInt8.ofNat (48+r / 10 % 10),UInt8.ofNat (48+r % 10)]:=by
  rw[Lib.extract_data];unfold numS;rw[dec4 r h]
  rfl
 show Lib.trimRightB _ 48=_;rw[e];obtain⟨a,ha⟩:=lt_ (r / 1000);obtain⟨b,hb⟩:=lt_ (r / 100 % 10);obtain⟨c,hc⟩:=lt_ (r / 10 % 10);obtain⟨d,hd⟩:=lt_ (r % 10);rw[ha,hb,hc,hd];have e2:r=1000*a+100*b+10*c+d:=by omega
 have he:a<10:=by omega
 have hf:b<10:=by omega
 have hg:c<10:=by omega
 have hh:d<10:=by omega
 clear ha hb hc hd e h;unfold Lib.trimRightB;simp only[List.reverse_cons,List.reverse_nil,List.nil_append,List.cons_append,List.dropWhile_cons,ofNat48 hh,ofNat48 hg,ofNat48 hf,ofNat48 he,decide_eq_true_eq,List.dropWhile_nil];unfold fracD fracD fracD fracD fracD;have q1:r / 1000=a:=by omega
 have q2:r % 1000*10 / 1000=b:=by omega
 have q3:r % 1000*10 % 1000*10 / 1000=c:=by omega
 have q4:r % 1000*10 % 1000*10 % 1000*10 / 1000=d:=by omega
 rw[q1,q2,q3,q4];have z1:r=0 ↔ a=0/\b=0/\c=0/\d=0:=by omega
 have z2:r % 1000*10=0 ↔ b=0/\c=0/\d=0:=by omega
 have z3:r % 1000*10 % 1000*10=0 ↔ c=0/\d=0:=by omega
 have z4:r % 1000*10 % 1000*10 % 1000*10=0 ↔ d=0:=by omega
 simp only[z1,z2,z3,z4];by_cases h4:d=0<;>by_cases h3:c=0<;>by_cases h2:b=0<;>by_cases h1:a=0<;>simp[h1,h2,h3,h4]
theorem dec_step (n:Nat):Lib.decDigits n=if n<10 then [UInt8.ofNat (48+n)] else Lib.decDigits (n / 10)++[UInt8.ofNat (48+n % 10)]:=by
 rw[Lib.decDigits];split<;>rfl
end Go.Proofs.YtnccknhbplaieaaGreatDoor
