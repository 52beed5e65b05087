/- Parts. -/
import Derived.Test.YtppghgnhlgoagaaGreatDoorG08
import Derived.Shelf.Bits.Mul64
import Derived.Shelf.Strings.Builder1
import Derived.Shelf.Strings.Builder2
import Derived.Shelf.Strings.OnBuilder
import Derived.Shelf.Strings.Trim
import Derived.Shelf.Small.Utf8
import Derived.Shelf.Small.Bits
import Derived.Shelf.Small.Strs
import Derived.Shelf.Small.Wraps
import Derived.Shelf.Strings.BuilderF
import Derived.Shelf.Strings.BuilderK
import Derived.Shelf.Strings.Builder2Cap
import Derived.Shelf.Strconv.Itoa0
import Derived.Shelf.Strconv.Itoa1
import Derived.Shelf.LaysM
import Derived.Shelf.Strconv.Itoa2
import Derived.Shelf.Strconv.Itoa3
import Derived.Shelf.Strconv.Clone
import Derived.Shelf.Strconv.SyntaxError
import Derived.Shelf.LaysC
import Derived.Shelf.Strconv.ToError
import Derived.Shelf.Strconv.Lower
import Derived.Shelf.Strconv.ParseUint10
import Derived.Shelf.Strconv.ParseUint10Empty
import Derived.Shelf.Strconv.ParseUint10Any
import Derived.Shelf.Strconv.RangeError
import Derived.Shelf.Strconv.ToErrorRange
import Derived.Shelf.Strconv.ParseUintEmpty
import Derived.Shelf.Strconv.ParseUint10b64
import Derived.Shelf.Strconv.ParseUint10b32
import Derived.Shelf.Strconv.ParseUint10b16
import Derived.Shelf.Strconv.ParseUint10b8
import Derived.Shelf.Strconv.ParseUint10At
import Derived.Ground.MpProg
import Derived.Shelf.Pu.ParseUintPublic10
import Derived.Shelf.Pu.ErrVarParseUint
import Derived.Shelf.Strings.Search1
import Derived.Shelf.Strings.Search2
import Derived.Shelf.Strings.Search3
import Derived.Shelf.Strings.Cut
import Derived.Shelf.Strings.Shaped
import Derived.Shelf.Strings.Prefix
import Derived.Shelf.Unicode.Decode
import Derived.Shelf.Strings.Runes
import Derived.Shelf.Strings.AsciiSet
import Derived.Shelf.Strings.Repeat
import Derived.Shelf.Unicode.DecodeSlow
import Derived.Shelf.Unicode.DecodeAny
import Derived.Shelf.Unicode.DecodeLast
import Derived.Shelf.Strings.BuilderCap
import Derived.Ground.SlgnProg
import Derived.Shelf.SlicesG.Turned
import Derived.Shelf.SlicesG.SearchI
import Derived.Ground.SlgmProg
import Derived.Shelf.SortM.Plain
import Derived.Shelf.SortM.SortNone
import Derived.Deep.CutBlock
import Derived.Lib.ItoaMem
import Derived.Lib.AppendIntMem
import Derived.Lib.Walk
import Derived.BigCall
import Derived.BigGuard
set_option linter.all false
set_option maxRecDepth 100000
set_option maxHeartbeats 4000000
namespace Go.Proofs.YtppghgnhlgoagaaGreatDoor.Div64
open Go
structure Facts (hi lo y s t v H D u z d1 d0 a b:Nat):Prop where
 k1:IntKind.u64.wrap (64-((Lib.bitLen y:Nat):Int))=(s:Int)
 k2:min s 64=s
 k3:IntKind.u64.wrap ((y:Int)*2 ^ s)=(v:Int)
 k4:IntKind.u64.wrap (64-(s:Int))=(t:Int)
 k5:min t 64=t
 k6:IntKind.u64.wrap ((hi:Int)*2 ^ s)=(H:Int)
 k7:(lo:Int) / 2 ^ t=(D:Int)
 k8:bits .or .u64 (H:Int) (D:Int)=(u:Int)
 k9:IntKind.u64.wrap ((lo:Int)*2 ^ s)=(z:Int)
 k10:(z:Int) / 4294967296=(d1:Int)
 k11:bits .and .u64 (z:Int) 4294967295=(d0:Int)
 k12:(v:Int) / 4294967296=(a:Int)
 k13:bits .and .u64 (v:Int) 4294967295=(b:Int)
 v0:9223372036854775808<=v
 v1:v<18446744073709551616
 uv:u<v
 h1:d1<4294967296
 h0:d0<4294967296
 ha:a=v / 4294967296
 hb:b=v % 4294967296
 quo:(hi*18446744073709551616+lo) / y=(u*4294967296+d1) / v*4294967296+((u*4294967296+d1) % v*4294967296+d0) / v
 rem:(hi*18446744073709551616+lo) % y=((u*4294967296+d1) % v*4294967296+d0) % v / 2 ^ s
theorem facts (hi lo y:Nat) (h:hi<y) (hl:lo<18446744073709551616) (hy:y<18446744073709551616):∃ s t v H D u z d1 d0 a b:Nat,Facts hi lo y s t v H D u z d1 d0 a b:=by
 obtain⟨n1,n2,n3,n4⟩:=norm (show 0<y by omega) hy
 obtain⟨s,hs⟩:∃ s,s=64-Lib.bitLen y:=⟨_,rfl⟩
 rw[<- hs] at n3 n4
 have hs64:s<=64:=by omega
 have hp:0<2 ^ s:=Nat.two_pow_pos s
 have hlt:=shifted_lt hs64 hl h
 have hsh:=shifted hi lo s hs64
 have hz:lo*2 ^ s % 18446744073709551616<18446744073709551616:=Nat.mod_lt _ (by decide)
 have hH:hi*2 ^ s<18446744073709551616:=by
  have:=Nat.mul_le_mul_right (2 ^ s) (Nat.le_of_lt h)
  omega
 have hD:lo / 2 ^ (64-s)<2 ^ s:=(Nat.div_lt_iff_lt_mul (Nat.two_pow_pos _)).2 (by rw[<- Nat.pow_add,Nat.add_sub_cancel' hs64];exact hl)
 have hD':lo / 2 ^ (64-s)<18446744073709551616:=Nat.lt_of_le_of_lt (Nat.div_le_self _ _) hl
 have hN:=both (N:=(hi*18446744073709551616+lo)*2 ^ s) (v:=y*2 ^ s) (u:=hi*2 ^ s+lo / 2 ^ (64-s)) (d1:=lo*2 ^ s % 18446744073709551616 / 4294967296) (d0:=lo*2 ^ s % 18446744073709551616 % 4294967296) (by omega) (by rw[<- hsh];omega)
 rw[Nat.mul_div_mul_right _ _ hp,Nat.mul_mod_mul_right] at hN
 refine⟨s,64-s,y*2 ^ s,hi*2 ^ s,lo / 2 ^ (64-s),hi*2 ^ s+lo / 2 ^ (64-s),lo*2 ^ s % 18446744073709551616,lo*2 ^ s % 18446744073709551616 / 4294967296,lo*2 ^ s % 18446744073709551616 % 4294967296,y*2 ^ s / 4294967296,y*2 ^ s % 4294967296,?_⟩
 have c2:((2:Int) ^ s)=((2 ^ s:Nat):Int):=by simp
 have c3:((2:Int) ^ (64-s))=((2 ^ (64-s):Nat):Int):=by simp
 exact {
  k1:=by rw[IntKind.wrap_u64];omega
  k2:=by omega
  k3:=by rw[c2,<-Int.natCast_mul,Mul64.wrapN _ n4]
  k4:=by rw[IntKind.wrap_u64];omega
  k5:=by omega
  k6:=by rw[c2,<-Int.natCast_mul,Mul64.wrapN _ hH]
  k7:=by rw[c3,<-Int.natCast_ediv]
  k8:=by rw[bits_or_u64_nat _ _ hH hD',or_sum hD]
  k9:=by rw[c2,<-Int.natCast_mul,Mul64.wrapM]
  k10:=Mul64.divN _
  k11:=Mul64.maskN _ hz
  k12:=Mul64.divN _
  k13:=Mul64.maskN _ n4
  v0:=n3
  v1:=n4
  uv:=hlt
  h1:=by omega
  h0:=Nat.mod_lt _ (by decide)
  ha:=rfl
  hb:=rfl
  quo:=hN.1
  rem:=by rw[<- hN.2,Nat.mul_div_cancel _ hp] }
theorem start_words {v u a:Nat} (v0:9223372036854775808<=v) (v1:v<18446744073709551616) (uv:u<v) (ha:a=v / 4294967296) {d:Nat} (hd:d<4294967296) :
  ∃ q r:Nat,IntKind.u64.wrap ((u:Int) / (a:Int))=(q:Int)/\IntKind.u64.wrap ((q:Int)*(a:Int))=((u-r:Nat):Int)/\IntKind.u64.wrap ((u:Int)-((u-r:Nat):Int))=(r:Int)/\Inv v u d q r:=by
 subst ha
 have hI:=Inv.start v0 v1 uv hd
 have hq:u / (v / 4294967296)<18446744073709551616:=Nat.lt_of_le_of_lt (Nat.div_le_self _ _) (by omega)
 have hm:u / (v / 4294967296)*(v / 4294967296)<=u:=Nat.div_mul_le_self _ _
 refine⟨u / (v / 4294967296),u-u / (v / 4294967296)*(v / 4294967296),?_,?_,?_,hI⟩
 ·rw[<- Int.natCast_ediv,Mul64.wrapN _ hq]
 ·rw[<- Int.natCast_mul,Nat.sub_sub_self hm,Mul64.wrapN _ (by omega)]
 ·rw[Nat.sub_sub_self hm,<-Int.ofNat_sub hm,Mul64.wrapN _ (by omega)]
theorem test_words {v u d q r b:Nat} (h:Inv v u d q r) (hb:b=v % 4294967296) (hd:d<4294967296) :
  ∃ m x e:Nat,IntKind.u64.wrap ((q:Int)*(b:Int))=(m:Int)/\IntKind.u64.wrap (4294967296*(r:Int))=(x:Int)/\IntKind.u64.wrap ((x:Int)+(d:Int))=(e:Int)/\m=q*(v % 4294967296)/\e=4294967296*r+d:=by
 subst hb
 obtain⟨f1,f2⟩:=h.fits hd
 refine⟨q*(v % 4294967296),4294967296*r,4294967296*r+d,?_,?_,?_,rfl,rfl⟩
 ·rw[<- Int.natCast_mul,Mul64.wrapN _ f1]
 ·rw[show (4294967296*(r:Int))=((4294967296*r:Nat):Int) by omega,Mul64.wrapN _ (by omega)]
 ·rw[<- Int.natCast_add,Mul64.wrapN _ f2]
theorem less_words {v u d q r a:Nat} (h:Inv v u d q r) (ha:a=v / 4294967296) (v1:v<18446744073709551616) (hq:1<=q) :
  ∃ q' r':Nat,IntKind.u64.wrap ((q:Int)-1)=(q':Int)/\IntKind.u64.wrap ((r:Int)+(a:Int))=(r':Int)/\q'=q-1/\r'=r+v / 4294967296:=by
 subst ha
 have h1:=h.top
 have h2:=h.low
 refine⟨q-1,r+v / 4294967296,?_,?_,rfl,rfl⟩
 ·rw[IntKind.wrap_u64];omega
 ·rw[<- Int.natCast_add,Mul64.wrapN _ (by omega)]
theorem left_words {v u d q:Nat} (hv:0<v) (v1:v<18446744073709551616) (hq:q=(u*4294967296+d) / v) :
  ∃ x e m:Nat,IntKind.u64.wrap ((u:Int)*4294967296)=(x:Int)/\IntKind.u64.wrap ((x:Int)+(d:Int))=(e:Int)/\IntKind.u64.wrap ((q:Int)*(v:Int))=(m:Int)/\IntKind.u64.wrap ((e:Int)-(m:Int))=(((u*4294967296+d) % v:Nat):Int):=by
 have h:=left hv v1 hq
 refine⟨u*4294967296 % 18446744073709551616,(u*4294967296+d) % 18446744073709551616,q*v % 18446744073709551616,?_,?_,?_,?_⟩
 ·rw[show ((u:Int)*4294967296)=((u*4294967296:Nat):Int) by omega,Mul64.wrapM]
 ·rw[<- Int.natCast_add,Mul64.wrapM,Nat.add_mod (u*4294967296) d,Nat.mod_add_mod,<-Nat.add_mod]
 ·rw[<- Int.natCast_mul,Mul64.wrapM]
 ·rw[IntKind.wrap_u64,<-h]
  have h4:=Nat.mod_lt (q*v) (show 0<18446744073709551616 by decide)
  omega
theorem last_words {q p:Nat} (hq:q<4294967296) (hp:p<4294967296):∃ x:Nat,IntKind.u64.wrap ((q:Int)*4294967296)=(x:Int)/\IntKind.u64.wrap ((x:Int)+(p:Int))=((q*4294967296+p:Nat):Int):=by
 refine⟨q*4294967296,?_,?_⟩
 ·rw[show ((q:Int)*4294967296)=((q*4294967296:Nat):Int) by omega,Mul64.wrapN _ (by omega)]
 ·rw[<- Int.natCast_add,Mul64.wrapN _ (by omega)]
end Go.Proofs.YtppghgnhlgoagaaGreatDoor.Div64
namespace Go.Proofs
open Go.Shelf
def Tryz.lays162_ren:Go.Shelf.Ren:=⟨fun|162=>82|232=>104|227=>105|234=>106|236=>107|228=>141|271=>142|151=>143|120=>230|197=>231|152=>232|260=>279|137=>280|119=>281|224=>282|225=>283|217=>306|266=>326|n=>n,fun|9=>9|4=>4|3=>3|5=>5|117=>180|116=>179|0=>0|124=>183|21=>21|105=>223|46=>161|119=>327|139=>330|138=>329|n=>n,fun|3=>6|4=>7|n=>n⟩
theorem Tryz.lays162:Go.Proofs.Lays.n162 Tryz.prog Tryz.lays162_ren:= {
 mixed:=by kernel_rfl
 f119:=Tryz.func281.trans (congrArg some (by kernel_rfl))
 f120:=Tryz.func230.trans (congrArg some (by kernel_rfl))
 f137:=Tryz.func280.trans (congrArg some (by kernel_rfl))
 f151:=Tryz.func143.trans (congrArg some (by kernel_rfl))
 f152:=Tryz.func232.trans (congrArg some (by kernel_rfl))
 f162:=Tryz.func82.trans (congrArg some (by kernel_rfl))
 f197:=Tryz.func231.trans (congrArg some (by kernel_rfl))
 f217:=Tryz.func306.trans (congrArg some (by kernel_rfl))
 f224:=Tryz.func282.trans (congrArg some (by kernel_rfl))
 f225:=Tryz.func283.trans (congrArg some (by kernel_rfl))
 f227:=Tryz.func105.trans (congrArg some (by kernel_rfl))
 f228:=Tryz.func141.trans (congrArg some (by kernel_rfl))
 f232:=Tryz.func104.trans (congrArg some (by kernel_rfl))
 f234:=Tryz.func106.trans (congrArg some (by kernel_rfl))
 f236:=Tryz.func107.trans (congrArg some (by kernel_rfl))
 f260:=Tryz.func279.trans (congrArg some (by kernel_rfl))
 f266:=Tryz.func326.trans (congrArg some (by kernel_rfl))
 f271:=Tryz.func142.trans (congrArg some (by kernel_rfl))
 t0:=Tryz.underlying0
 a0:=Tryz.isAgg0
 z0:=Tryz.sizeOf0
 v0:=Tryz.zeroValue0
 t3:=Tryz.underlying3
 a3:=Tryz.isAgg3
 z3:=Tryz.sizeOf3
 v3:=Tryz.zeroValue3
 t4:=Tryz.underlying4
 a4:=Tryz.isAgg4
 z4:=Tryz.sizeOf4
 v4:=Tryz.zeroValue4
 t5:=Tryz.underlying5
 a5:=Tryz.isAgg5
 z5:=Tryz.sizeOf5
 v5:=Tryz.zeroValue5
 t9:=Tryz.underlying9
 a9:=Tryz.isAgg9
 z9:=Tryz.sizeOf9
 v9:=Tryz.zeroValue9
 t21:=Tryz.underlying21
 a21:=Tryz.isAgg21
 z21:=Tryz.sizeOf21
 v21:=Tryz.zeroValue21
 t46:=Tryz.underlying161
 a46:=Tryz.isAgg161
 z46:=Tryz.sizeOf161
 v46:=Tryz.zeroValue161
 t105:=Tryz.underlying223
 a105:=Tryz.isAgg223
 z105:=Tryz.sizeOf223
 v105:=Tryz.zeroValue223
 t116:=Tryz.underlying179
 a116:=Tryz.isAgg179
 z116:=Tryz.sizeOf179
 t117:=Tryz.underlying180
 a117:=Tryz.isAgg180
 z117:=Tryz.sizeOf180
 v117:=Tryz.zeroValue180
 t119:=Tryz.underlying327
 a119:=Tryz.isAgg327
 z119:=Tryz.sizeOf327
 t124:=Tryz.underlying183
 a124:=Tryz.isAgg183
 z124:=Tryz.sizeOf183
 v124:=Tryz.zeroValue183
 t138:=Tryz.underlying329
 a138:=Tryz.isAgg329
 z138:=Tryz.sizeOf329
 v138:=Tryz.zeroValue329
 t139:=Tryz.underlying330
 a139:=Tryz.isAgg330
 z139:=Tryz.sizeOf330
 v139:=Tryz.zeroValue330
 g3:=by kernel_rfl
 g4:=by kernel_rfl }
open Go.RowKit in
theorem Tryz.strings_TrimRight_one (s:ByteArray) (c:UInt8) (hc:c.toNat<128) (w:World) (hs:s.size<=9223372036854775807) :
 Calls Tryz.prog 82 #[.string s,.string ⟨#[c]⟩] w fun e w'=>e=.returned (.string ⟨(Lib.trimRightB s.data.toList c).toArray⟩)/\w'=w:=Any.strings_TrimRight_one Tryz.lays162 s c hc w hs
def Tryz.lays134_ren:Go.Shelf.Ren:=⟨fun|134=>80|129=>102|n=>n,fun|53=>146|3=>3|4=>4|46=>161|5=>5|9=>9|n=>n,fun|n=>n⟩
theorem Tryz.lays134:Go.Proofs.Lays.n134 Tryz.prog Tryz.lays134_ren:= {
 mixed:=by kernel_rfl
 f129:=Tryz.func102.trans (congrArg some (by kernel_rfl))
 f134:=Tryz.func80.trans (congrArg some (by kernel_rfl))
 t3:=Tryz.underlying3
 a3:=Tryz.isAgg3
 z3:=Tryz.sizeOf3
 v3:=Tryz.zeroValue3
 t4:=Tryz.underlying4
 a4:=Tryz.isAgg4
 z4:=Tryz.sizeOf4
 v4:=Tryz.zeroValue4
 t5:=Tryz.underlying5
 a5:=Tryz.isAgg5
 z5:=Tryz.sizeOf5
 v5:=Tryz.zeroValue5
 t9:=Tryz.underlying9
 a9:=Tryz.isAgg9
 z9:=Tryz.sizeOf9
 v9:=Tryz.zeroValue9
 t46:=Tryz.underlying161
 a46:=Tryz.isAgg161
 z46:=Tryz.sizeOf161
 v46:=Tryz.zeroValue161
 t53:=Tryz.underlying146
 a53:=Tryz.isAgg146
 z53:=Tryz.sizeOf146
 v53:=Tryz.zeroValue146 }
theorem Tryz.bits_LeadingZeros64 (x:Int) (w:World) (h0:0<=x) (h1:x<=18446744073709551615) :
 Calls Tryz.prog 80 #[.int .u64 x] w fun e w'=>e=.returned (.int .i64 (64-(Lib.bitLen x.toNat:Int)))/\w'=w:=Any.bits_LeadingZeros64 Tryz.lays134 x w h0 h1
def Tryz.lays106_ren:Go.Shelf.Ren:=⟨fun|106=>85|213=>110|265=>144|n=>n,fun|9=>9|3=>3|n=>n,fun|n=>n⟩
theorem Tryz.lays106:Go.Proofs.Lays.n106 Tryz.prog Tryz.lays106_ren:= {
 mixed:=by kernel_rfl
 f106:=Tryz.func85.trans (congrArg some (by kernel_rfl))
 f213:=Tryz.func110.trans (congrArg some (by kernel_rfl))
 f265:=Tryz.func144.trans (congrArg some (by kernel_rfl))
 t3:=Tryz.underlying3
 a3:=Tryz.isAgg3
 z3:=Tryz.sizeOf3
 v3:=Tryz.zeroValue3
 t9:=Tryz.underlying9
 a9:=Tryz.isAgg9
 z9:=Tryz.sizeOf9
 v9:=Tryz.zeroValue9 }
open Go.RowKit in
theorem Tryz.strings_Compare (a b:ByteArray) (w:World) :
 Calls Tryz.prog 85 #[.string a,.string b] w fun e w'=>e=.returned (.int .i64 (Lib.compareBytes a.data.toList b.data.toList))/\w'=w:=Any.strings_Compare Tryz.lays106 a b w
def Tryz.lays283_ren:Go.Shelf.Ren:=⟨fun|283=>137|n=>n,fun|3=>3|9=>9|4=>4|n=>n,fun|n=>n⟩
theorem Tryz.lays283:Go.Proofs.Lays.n283 Tryz.prog Tryz.lays283_ren:= {
 mixed:=by kernel_rfl
 f283:=Tryz.func137.trans (congrArg some (by kernel_rfl))
 t3:=Tryz.underlying3
 a3:=Tryz.isAgg3
 z3:=Tryz.sizeOf3
 v3:=Tryz.zeroValue3
 t4:=Tryz.underlying4
 a4:=Tryz.isAgg4
 z4:=Tryz.sizeOf4
 v4:=Tryz.zeroValue4
 t9:=Tryz.underlying9
 a9:=Tryz.isAgg9
 z9:=Tryz.sizeOf9
 v9:=Tryz.zeroValue9 }
open Go.Lib in
theorem Tryz.internal_strconv_small (i:Nat) (h:i<100) (w:World) :
 Calls Tryz.prog 137 #[.int .i64 i] w fun e w'=>e=.returned (.string ⟨(Lib.decDigits i).toArray⟩)/\w'=w:=Any.internal_strconv_small Tryz.lays283 i h w
def Tryz.laysM284_ren:Go.Shelf.Ren:=⟨fun|284=>138|129=>102|317=>226|318=>227|n=>n,fun|53=>146|3=>3|212=>253|0=>0|4=>4|46=>161|5=>5|9=>9|n=>n,fun|17=>3|n=>n⟩
theorem Tryz.laysM284:Go.Proofs.LaysM.n284 Tryz.prog Tryz.laysM284_ren:= {
 mixed:=by kernel_rfl
 f129:=Tryz.func102.trans (congrArg some (by kernel_rfl))
 f284:=Tryz.func138.trans (congrArg some (by kernel_rfl))
 f317:=Tryz.func226.trans (congrArg some (by kernel_rfl))
 f318:=Tryz.func227.trans (congrArg some (by kernel_rfl))
 t0:=Tryz.underlying0
 a0:=Tryz.isAgg0
 z0:=Tryz.sizeOf0
 v0:=Tryz.zeroValue0
 t3:=Tryz.underlying3
 a3:=Tryz.isAgg3
 z3:=Tryz.sizeOf3
 v3:=Tryz.zeroValue3
 t4:=Tryz.underlying4
 a4:=Tryz.isAgg4
 z4:=Tryz.sizeOf4
 v4:=Tryz.zeroValue4
 t5:=Tryz.underlying5
 a5:=Tryz.isAgg5
 z5:=Tryz.sizeOf5
 v5:=Tryz.zeroValue5
 t9:=Tryz.underlying9
 a9:=Tryz.isAgg9
 z9:=Tryz.sizeOf9
 v9:=Tryz.zeroValue9
 t46:=Tryz.underlying161
 a46:=Tryz.isAgg161
 z46:=Tryz.sizeOf161
 v46:=Tryz.zeroValue161
 t53:=Tryz.underlying146
 a53:=Tryz.isAgg146
 z53:=Tryz.sizeOf146
 v53:=Tryz.zeroValue146
 t212:=Tryz.underlying253
 a212:=Tryz.isAgg253
 z212:=Tryz.sizeOf253
 v212:=Tryz.zeroValue253
 g17:=by kernel_rfl
 i0:=by kernel_rfl
 i3:=by kernel_rfl
 i4:=by kernel_rfl
 i5:=by kernel_rfl
 i9:=by kernel_rfl
 i46:=by kernel_rfl
 i53:=by kernel_rfl
 i212:=by kernel_rfl
 m17:=by kernel_rfl }
open Go.Lib in
theorem Tryz.internal_strconv_numDigits (u:Nat) (h1:1<=u) (h2:u<18446744073709551616) (w:World) (htab:Lib.TabIs Tryz.prog w "internal/strconv.uint64pow10" .u64 Lib.pow10Tab) :
 Calls Tryz.prog 138 #[.int .u64 u] w fun e w'=>e=.returned (.int .i64 (Lib.nDigits u))/\w'=w:=Any.internal_strconv_numDigits Tryz.laysM284 u h1 h2 w htab
def Tryz.lays285_ren:Go.Shelf.Ren:=⟨fun|285=>139|n=>n,fun|37=>219|53=>146|3=>3|4=>4|51=>70|9=>9|5=>5|0=>0|n=>n,fun|n=>n⟩
theorem Tryz.lays285:Go.Proofs.Lays.n285 Tryz.prog Tryz.lays285_ren:= {
 mixed:=by kernel_rfl
 f285:=Tryz.func139.trans (congrArg some (by kernel_rfl))
 t0:=Tryz.underlying0
 a0:=Tryz.isAgg0
 z0:=Tryz.sizeOf0
 v0:=Tryz.zeroValue0
 t3:=Tryz.underlying3
 a3:=Tryz.isAgg3
 z3:=Tryz.sizeOf3
 v3:=Tryz.zeroValue3
 t4:=Tryz.underlying4
 a4:=Tryz.isAgg4
 z4:=Tryz.sizeOf4
 v4:=Tryz.zeroValue4
 t5:=Tryz.underlying5
 a5:=Tryz.isAgg5
 z5:=Tryz.sizeOf5
 v5:=Tryz.zeroValue5
 t9:=Tryz.underlying9
 a9:=Tryz.isAgg9
 z9:=Tryz.sizeOf9
 v9:=Tryz.zeroValue9
 t37:=Tryz.underlying219
 a37:=Tryz.isAgg219
 z37:=Tryz.sizeOf219
 v37:=Tryz.zeroValue219
 t51:=Tryz.underlying70
 a51:=Tryz.isAgg70
 z51:=Tryz.sizeOf70
 v51:=Tryz.zeroValue70
 t53:=Tryz.underlying146
 a53:=Tryz.isAgg146
 z53:=Tryz.sizeOf146
 v53:=Tryz.zeroValue146 }
open Go.RowKit Go.Sort Go.Lib in
theorem Tryz.internal_strconv_formatBase10 (blk off cap:Nat) (u:Nat) (d:Array UInt8) (w:World) (hH:Holds (fun (b:UInt8)=>Value.int .u8 (b.toNat:Int)) w blk off d) (hu:u<10 ^ d.size) (hu64:u<18446744073709551616) (hsz:d.size<4611686018427387904) :
 Calls Tryz.prog 139 #[.slice (some ⟨blk,off,none⟩) d.size cap,.int .u64 u] w fun e w' =>
  e=.returned (.tuple #[])/\∃ (n v':Nat) (dk:Array UInt8),w'=(putRow (fun (b:UInt8)=>Value.int .u8 (b.toNat:Int)) w blk off dk).drewN n/\FmtInv d.size u 0 v' dk:=Any.internal_strconv_formatBase10 Tryz.lays285 blk off cap u d w hH hu hu64 hsz
def Tryz.lays264_ren:Go.Shelf.Ren:=⟨fun|264=>58|n=>n,fun|53=>146|46=>161|n=>n,fun|n=>n⟩
theorem Tryz.lays264:Go.Proofs.Lays.n264 Tryz.prog Tryz.lays264_ren:= {
 mixed:=by kernel_rfl
 f264:=Tryz.func58.trans (congrArg some (by kernel_rfl))
 t46:=Tryz.underlying161
 a46:=Tryz.isAgg161
 z46:=Tryz.sizeOf161
 v46:=Tryz.zeroValue161
 t53:=Tryz.underlying146
 a53:=Tryz.isAgg146
 z53:=Tryz.sizeOf146
 v53:=Tryz.zeroValue146 }
open Go.RowKit Go.Lib in
theorem Tryz.bits_Mul64 (x y:Nat) (hx:x<18446744073709551616) (hy:y<18446744073709551616) (w:World) :
 Calls Tryz.prog 58 #[.int .u64 x,.int .u64 y] w fun e w'=>e=.returned (.tuple #[.int .u64 ((x*y / 18446744073709551616:Nat):Int),.int .u64 ((x*y % 18446744073709551616:Nat):Int)])/\w'=w:=Any.bits_Mul64 Tryz.lays264 x y hx hy w
end Go.Proofs
namespace Go.Proofs.YtppghgnhlgoagaaGreatDoor
open Go Go.RowKit
open Go.Lib renaming hid->zh
theorem div64_zero (lo y:Nat) (h:0<y) (hl:lo<18446744073709551616) (hy:y<18446744073709551616) (w:World):Rt 59 #[.int .u64 0,.int .u64 lo,.int .u64 y] w (.tuple #[.int .u64 ((lo / y:Nat):Int),.int .u64 ((lo % y:Nat):Int)]):=by
 have h0:((y:Int)==0)=false:=by simp;omega
 have h0': ¬ (y:Int)=0:=by omega
 have h1: ¬ (y:Int)<=0:=by omega
 have hb:(lo:Int) / (y:Int)<=18446744073709551615:=by rw[<- Int.natCast_ediv];have:=Nat.div_le_self lo y;omega
 have hb0:0<=(lo:Int) / (y:Int):=by rw[<- Int.natCast_ediv];exact Int.natCast_nonneg _
 go_enter Tryz.func59,Tryz.ntmps59
 go_wp2
 go_quiet (fail)
 all_goals go_wp2
 all_goals go_ret2
 all_goals refine⟨?_,bel⟩
 all_goals(rw[Int.natCast_ediv,Int.natCast_emod];rfl)
theorem bits_Div64 (hi lo y:Nat) (h0:0<hi) (h:hi<y) (hl:lo<18446744073709551616) (hy:y<18446744073709551616) (w:World):Rt 59 #[.int .u64 hi,.int .u64 lo,.int .u64 y] w (.tuple #[.int .u64 (((hi*18446744073709551616+lo) / y:Nat):Int),.int .u64 (((hi*18446744073709551616+lo) % y:Nat):Int)]):=by
 have q0:((y:Int)==0)=false:=by simp;omega
 have q1: ¬ (y:Int)<=hi:=by omega
 have q2:((hi:Int)==0)=false:=by simp;omega
 obtain⟨s,t,v,H,D,u,z,d1,d0,a,b,F⟩:=Div64.facts hi lo y h hl hy
 rw[F.quo,F.rem]
 have k1:=F.k1
 have k2:=F.k2
 have k3:=F.k3
 have k4:=F.k4
 have k5:=F.k5
 have k6:=F.k6
 have k7:=F.k7
 have k8:=F.k8
 have k9:=F.k9
 have k10:=F.k10
 have k11:=F.k11
 have k12:=F.k12
 have k13:=F.k13
 have v0:0<v:=by have:=F.v0;omega
 have a0:0<a:=by have:=F.ha;have:=F.v0;omega
 have a1:((a:Int)==0)=false:=by simp;omega
 have a2: ¬ (a:Int)=0:=by omega
 obtain⟨q,r,g1,g2,g3,hI⟩:=Div64.start_words F.v0 F.v1 F.uv F.ha F.h1
 obtain⟨Q,hQ⟩:∃ Q,Q=(u*4294967296+d1) / v:=⟨_,rfl⟩
 obtain⟨R,hR⟩:∃ R,R=(u*4294967296+d1) % v:=⟨_,rfl⟩
 obtain⟨x1,x2,x3,g4,g5,g6,g7⟩:=Div64.left_words v0 F.v1 hQ
 rw[<- hR] at g7
 have hRv:R<v:=by rw[hR];exact Nat.mod_lt _ v0
 obtain⟨q',r',g8,g9,g10,hJ⟩:=Div64.start_words F.v0 F.v1 hRv F.ha F.h0
 obtain⟨Q',hQ'⟩:∃ Q',Q'=(R*4294967296+d0) / v:=⟨_,rfl⟩
 obtain⟨y1,y2,y3,g11,g12,g13,g14⟩:=Div64.left_words v0 F.v1 hQ'
 have b1:Q<4294967296:=by rw[hQ];exact Div64.digit_lt F.uv F.h1
 have b2:Q'<4294967296:=by rw[hQ'];exact Div64.digit_lt hRv F.h0
 obtain⟨z1,g15,g16⟩:=Div64.last_words b1 b2
 rw[<- hQ,<-hR,<-hQ']
 obtain⟨T,hT⟩:∃ T,T=(R*4294967296+d0) % v:=⟨_,rfl⟩
 rw[<- hT] at g14 ⊢
 have HF:=zh F
 have HRv:=zh hRv
 have HI:=zh hI
 have HJ:=zh hJ
 have HQ:=zh hQ
 have HQ':=zh hQ'
 clear F hI hJ hQ hQ' hR hT hRv b1 b2
 go_enter Tryz.func59,Tryz.ntmps59
 go_upto_block 0 with (go_at_call 80;refine(Tryz.bits_LeadingZeros64 y _ (by omega) (by omega)).mono ?_;rintro e w1 ⟨rfl,rfl⟩)
 go_cut [15] (fun aA wx=>aA=.int .u64 Q/\wx=w1)
 case first =>
  go_wp2_with fail
  go_loopw [15,16] (fun t wt wr=>∃ q r:Nat,t=.int .u64 q/\wt=.int .u64 r/\Div64.Inv v u d1 q r/\wr=w1) (fun t _ _=>(intOf t).toNat)
  case atStart=>exact⟨_,_,rfl,rfl,HI.out,rfl⟩
  case round =>
   obtain⟨q,r,rfl,rfl,hK,rfl⟩:=hrel
   obtain⟨m,x,e,f1,f2,f3,f4,f5⟩:=Div64.test_words hK HF.out.hb HF.out.h1
   by_cases c1:4294967296<=q∨e<m
   ·have hg:=hK.great HF.out.uv HF.out.h1 (by rw[<- f4,<-f5];exact c1)
    have hq1:1<=q:=Nat.le_trans (Nat.le_add_left 1 _) hg
    obtain⟨p,o,f6,f7,f8,f9⟩:=Div64.less_words hK HF.out.ha HF.out.v1 hq1
    have hlt:(intOf (.int .u64 p)).toNat<(intOf (.int .u64 q)).toNat:=by show ((p:Nat):Int).toNat<((q:Nat):Int).toNat;rw[Int.toNat_natCast,Int.toNat_natCast,f8];exact Nat.sub_lt hq1 Nat.one_pos
    by_cases c2:4294967296<=o
    ·have hp:p=Q:=by rw[f8,HQ.out];exact hK.brk v0 hg (by rw[<- f9];exact c2)
     have c2i:(4294967296:Int)<=o:=by omega
     by_cases c3:4294967296<=q
     ·have c3i:(4294967296:Int)<=q:=by omega
      clear hK hg hlt c1 f4 f5 f8 f9 hq1
      go_wp2
      go_meet
      exact⟨by first|rfl|rw[hp],rfl⟩
     ·have c3i: ¬ (4294967296:Int)<=q:=by omega
      have c4i:(e:Int)<m:=by omega
      clear hK hg hlt c1 f4 f5 f8 f9 hq1
      go_wp2
      go_meet
      exact⟨by first|rfl|rw[hp],rfl⟩
    ·have hN:=zh (show Div64.Inv v u d1 p o from by rw[f8,f9];exact hK.round hg (by rw[<- f9];omega))
     have c2i: ¬ (4294967296:Int)<=o:=by omega
     by_cases c3:4294967296<=q
     ·have c3i:(4294967296:Int)<=q:=by omega
      clear hK hg c1 f4 f5 f8 f9 hq1
      go_wp2
      exact⟨⟨p,o,rfl,rfl,hN.out,by first|rfl|trivial⟩,hlt⟩
     ·have c3i: ¬ (4294967296:Int)<=q:=by omega
      have c4i:(e:Int)<m:=by omega
      clear hK hg c1 f4 f5 f8 f9 hq1
      go_wp2
      exact⟨⟨p,o,rfl,rfl,hN.out,by first|rfl|trivial⟩,hlt⟩
   ·have hp:q=Q:=by rw[HQ.out];exact hK.done v0 (by rw[<- f4,<-f5];omega)
    have c3i: ¬ (4294967296:Int)<=q:=by omega
    have c4i: ¬ (e:Int)<m:=by omega
    clear hK c1 f4 f5
    subst hp
    go_wp2
    go_meet
    exact⟨rfl,rfl⟩
 case rest =>
  obtain⟨rfl,hwx⟩:=hcut
  obtain rfl:=hwx
  clear HI
  go_upto_block 2 with fail
  go_cut [18] (fun aB wx=>aB=.int .u64 Q'/\wx=wc)
  case first =>
   go_wp2_with fail
   go_loopw [18,16] (fun t wt wr=>∃ q r:Nat,t=.int .u64 q/\wt=.int .u64 r/\Div64.Inv v R d0 q r/\wr=wc) (fun t _ _=>(intOf t).toNat)
   case atStart=>exact⟨_,_,rfl,rfl,HJ.out,rfl⟩
   case round =>
    obtain⟨q,r,rfl,rfl,hK,rfl⟩:=hrel
    obtain⟨m,x,e,f1,f2,f3,f4,f5⟩:=Div64.test_words hK HF.out.hb HF.out.h0
    by_cases c1:4294967296<=q∨e<m
    ·have hg:=hK.great HRv.out HF.out.h0 (by rw[<- f4,<-f5];exact c1)
     have hq1:1<=q:=Nat.le_trans (Nat.le_add_left 1 _) hg
     obtain⟨p,o,f6,f7,f8,f9⟩:=Div64.less_words hK HF.out.ha HF.out.v1 hq1
     have hlt:(intOf (.int .u64 p)).toNat<(intOf (.int .u64 q)).toNat:=by show ((p:Nat):Int).toNat<((q:Nat):Int).toNat;rw[Int.toNat_natCast,Int.toNat_natCast,f8];exact Nat.sub_lt hq1 Nat.one_pos
     by_cases c2:4294967296<=o
     ·have hp:p=Q':=by rw[f8,HQ'.out];exact hK.brk v0 hg (by rw[<- f9];exact c2)
      have c2i:(4294967296:Int)<=o:=by omega
      by_cases c3:4294967296<=q
      ·have c3i:(4294967296:Int)<=q:=by omega
       clear hK hg hlt c1 f4 f5 f8 f9 hq1
       go_wp2
       go_meet
       exact⟨by first|rfl|rw[hp],rfl⟩
      ·have c3i: ¬ (4294967296:Int)<=q:=by omega
       have c4i:(e:Int)<m:=by omega
       clear hK hg hlt c1 f4 f5 f8 f9 hq1
       go_wp2
       go_meet
       exact⟨by first|rfl|rw[hp],rfl⟩
     ·have hN:=zh (show Div64.Inv v R d0 p o from by rw[f8,f9];exact hK.round hg (by rw[<- f9];omega))
      have c2i: ¬ (4294967296:Int)<=o:=by omega
      by_cases c3:4294967296<=q
      ·have c3i:(4294967296:Int)<=q:=by omega
       clear hK hg c1 f4 f5 f8 f9 hq1
       go_wp2
       exact⟨⟨p,o,rfl,rfl,hN.out,by first|rfl|trivial⟩,hlt⟩
      ·have c3i: ¬ (4294967296:Int)<=q:=by omega
       have c4i:(e:Int)<m:=by omega
       clear hK hg c1 f4 f5 f8 f9 hq1
       go_wp2
       exact⟨⟨p,o,rfl,rfl,hN.out,by first|rfl|trivial⟩,hlt⟩
    ·have hp:q=Q':=by rw[HQ'.out];exact hK.done v0 (by rw[<- f4,<-f5];omega)
     have c3i: ¬ (4294967296:Int)<=q:=by omega
     have c4i: ¬ (e:Int)<m:=by omega
     clear hK c1 f4 f5
     subst hp
     go_wp2
     go_meet
     exact⟨rfl,rfl⟩
  case rest =>
   obtain⟨rfl,rfl⟩:=hcut
   clear HJ HQ HQ' HRv HF
   go_wp2
   go_ret2
   have c1:((Q*4294967296+Q':Nat):Int)=(Q:Int)*4294967296+(Q':Int):=by omega
   have c2:((T / 2 ^ s:Nat):Int)=(T:Int) / 2 ^ s:=by simp
   refine⟨?_,bel⟩
   rw[c1,c2]
   rfl
theorem Div64 (hi lo y:Nat) (h:hi<y) (hl:lo<18446744073709551616) (hy:y<18446744073709551616) (w:World):Rt 59 #[.int .u64 hi,.int .u64 lo,.int .u64 y] w (.tuple #[.int .u64 (((hi*18446744073709551616+lo) / y:Nat):Int),.int .u64 (((hi*18446744073709551616+lo) % y:Nat):Int)]):=by
 by_cases h0:hi=0
 ·subst h0
  have h1:=div64_zero lo y h hl hy w
  rw[Nat.zero_mul,Nat.zero_add]
  exact h1
 ·exact bits_Div64 hi lo y (by omega) h hl hy w
theorem cmp_Tag (x y:Int) (w:World):Calls Tryz.prog 83 #[.int .i64 x,.int .i64 y] w fun e w'=>e=.returned (.int .i64 (cmpI x y))/\w=w':=by
 unfold cmpI
 by_cases h1:x<y
 ·rw[if_pos h1]
  go_enter Tryz.func83,Tryz.ntmps83
  go_wp2
  go_ret
  exact⟨rfl,rfl⟩
 ·rw[if_neg h1]
  by_cases h2:y<x
  ·rw[if_pos h2]
   go_enter Tryz.func83,Tryz.ntmps83
   go_wp2
   go_ret
   exact⟨rfl,rfl⟩
  ·rw[if_neg h2]
   go_enter Tryz.func83,Tryz.ntmps83
   go_wp2
   go_ret
   exact⟨rfl,rfl⟩
theorem cmp_64 (x y:Int) (w:World):Calls Tryz.prog 84 #[.int .i64 x,.int .i64 y] w fun e w'=>e=.returned (.int .i64 (cmpI x y))/\w=w':=by
 unfold cmpI
 by_cases h1:x<y
 ·rw[if_pos h1]
  go_enter Tryz.func84,Tryz.ntmps84
  go_wp2
  go_ret
  exact⟨rfl,rfl⟩
 ·rw[if_neg h1]
  by_cases h2:y<x
  ·rw[if_pos h2]
   go_enter Tryz.func84,Tryz.ntmps84
   go_wp2
   go_ret
   exact⟨rfl,rfl⟩
  ·rw[if_neg h2]
   go_enter Tryz.func84,Tryz.ntmps84
   go_wp2
   go_ret
   exact⟨rfl,rfl⟩
theorem cmpV_no {a b:V} (h:mayG a=false∨mayG b=false∨a.tag=4∨b.tag=4):cmpV a b=0:=if_pos h
theorem value_Compare_no (a b:V) (h:mayG a=false∨mayG b=false∨a.tag=4∨b.tag=4) (w:World):Rt 65 #[(vG a),(vG b)] w (.int .i64 (cmpV a b)):=by
 rw[cmpV_no h]
 by_cases h1:mayG a=false
 ·clear h
  go_enter Tryz.func65,Tryz.ntmps65
  go_wp2_with(first
   | (go_at_call_of 43 (Value.agg #[Value.int .i64 a.tag,Value.int .i64 a.num,Value.string a.str,Value.bool a.is,Value.int .i64 a.code]);refine mB (zA8 a _) ?_;intro l m)
   | (go_at_call_of 43 (Value.agg #[Value.int .i64 b.tag,Value.int .i64 b.num,Value.string b.str,Value.bool b.is,Value.int .i64 b.code]);refine mB (zA8 b _) ?_;intro l m))
  go_ret
  exact⟨rfl,bel⟩
 replace h1:mayG a=true:=by simpa using h1
 by_cases h2:mayG b=false
 ·clear h
  go_enter Tryz.func65,Tryz.ntmps65
  go_wp2_with(first
   | (go_at_call_of 43 (Value.agg #[Value.int .i64 a.tag,Value.int .i64 a.num,Value.string a.str,Value.bool a.is,Value.int .i64 a.code]);refine mB (zA8 a _) ?_;intro l m)
   | (go_at_call_of 43 (Value.agg #[Value.int .i64 b.tag,Value.int .i64 b.num,Value.string b.str,Value.bool b.is,Value.int .i64 b.code]);refine mB (zA8 b _) ?_;intro l m))
  go_ret
  exact⟨rfl,bel⟩
 replace h2:mayG b=true:=by simpa using h2
 by_cases h3:a.tag=4
 ·have k3:(a.tag==4)=true:=by simp[h3]
  clear h h3
  go_enter Tryz.func65,Tryz.ntmps65
  go_wp2_with(first
   | (go_at_call_of 43 (Value.agg #[Value.int .i64 a.tag,Value.int .i64 a.num,Value.string a.str,Value.bool a.is,Value.int .i64 a.code]);refine mB (zA8 a _) ?_;intro l m)
   | (go_at_call_of 43 (Value.agg #[Value.int .i64 b.tag,Value.int .i64 b.num,Value.string b.str,Value.bool b.is,Value.int .i64 b.code]);refine mB (zA8 b _) ?_;intro l m))
  go_ret
  exact⟨rfl,bel⟩
 have h4:b.tag=4:=by simpa [h1,h2,h3] using h
 have k3:(a.tag==4)=false:=by simp[h3]
 have k4:(b.tag==4)=true:=by simp[h4]
 clear h h3 h4
 go_enter Tryz.func65,Tryz.ntmps65
 go_wp2_with(first
  | (go_at_call_of 43 (Value.agg #[Value.int .i64 a.tag,Value.int .i64 a.num,Value.string a.str,Value.bool a.is,Value.int .i64 a.code]);refine mB (zA8 a _) ?_;intro l m)
  | (go_at_call_of 43 (Value.agg #[Value.int .i64 b.tag,Value.int .i64 b.num,Value.string b.str,Value.bool b.is,Value.int .i64 b.code]);refine mB (zA8 b _) ?_;intro l m))
 go_ret
 exact⟨rfl,bel⟩
theorem value_Compare_yes (a b:V) (h1:mayG a=true) (h2:mayG b=true) (h3:a.tag≠4) (h4:b.tag≠4) (w:World):Rt 65 #[(vG a),(vG b)] w (.int .i64 (cmpV a b)):=by
 have k3:(a.tag==4)=false:=by simp[h3]
 have k4:(b.tag==4)=false:=by simp[h4]
 have ta:=truthI_nonneg a.is
 have tb:=truthI_nonneg b.is
 have ta':=truthI_le a.is
 have tb':=truthI_le b.is
 have e:=cmpV_of (by simp[h1]) (by simp[h2]) h3 h4
 have E:=zh e
 clear e h3 h4
 go_enter Tryz.func65,Tryz.ntmps65
 go_wp2_with(first
  | (go_at_call_of 43 (Value.agg #[Value.int .i64 a.tag,Value.int .i64 a.num,Value.string a.str,Value.bool a.is,Value.int .i64 a.code]);refine mB (zA8 a _) ?_;intro l m)
  | (go_at_call_of 43 (Value.agg #[Value.int .i64 b.tag,Value.int .i64 b.num,Value.string b.str,Value.bool b.is,Value.int .i64 b.code]);refine mB (zA8 b _) ?_;intro l m)
  | (go_at_call 83;refine(cmp_Tag _ _ _).mono ?_;rintro e w1 ⟨rfl,rfl⟩)
  | (go_at_call 84;refine(cmp_64 _ _ _).mono ?_;rintro e w1 ⟨rfl,rfl⟩)
  | (go_at_call 85;refine(Tryz.strings_Compare _ _ _).mono ?_;rintro e w1 ⟨rfl,rfl⟩))
 all_goals try(go_region_held3 (fun w'=>w'.cell? ⟨w.heap.size,3,none⟩=some (.bool a.is)/\w'.cell? ⟨w.heap.size+1,3,none⟩=some (.bool b.is)) (first|(go_keep;done)|(refine⟨?_,?_⟩<;>(go_simp;done))|(refine⟨?_,?_⟩<;>(simp;done))) (first|(go_at_call 54;refine(value_truth _ _).mono ?_;rintro e w1 ⟨rfl,rfl⟩)))
 all_goals go_wp2
 all_goals go_ret
 all_goals refine⟨?_,bel⟩
 all_goals have e:=E.out
 all_goals refine congrArg (fun x=>Ending.returned (Value.int .i64 x)) (?_:_=_)
 all_goals clear E
 all_goals(rw[e];simp_all[tagX];try(rw[IntKind.wrap_i64];omega))
theorem zBe (a b:V) (w:World):Rt 65 #[(vG a),(vG b)] w (.int .i64 (cmpV a b)):=by
 by_cases h:mayG a=false∨mayG b=false∨a.tag=4∨b.tag=4
 ·exact value_Compare_no a b h w
 ·have h1:mayG a=true:=by
   cases h1:mayG a
   ·exact absurd (.inl h1) h
   ·rfl
  have h2:mayG b=true:=by
   cases h2:mayG b
   ·exact absurd (.inr (.inl h2)) h
   ·rfl
  exact value_Compare_yes a b h1 h2 (fun e=>h (.inr (.inr (.inl e)))) (fun e=>h (.inr (.inr (.inr e)))) w
end Go.Proofs.YtppghgnhlgoagaaGreatDoor
namespace Go.Proofs.YtppghgnhlgoagaaGreatDoor
open Go Go.RowKit Go.Sort Go.Lib
open Go.Lib renaming hid->zh
def zBs (w:World):Prop:=Lib.TabIs Tryz.prog w "internal/strconv.uint64pow10" .u64 Lib.pow10Tab
theorem global_pow10:Tryz.prog.globalNamed "internal/strconv.uint64pow10" =some 3:=by kernel_rfl
theorem zBs.lt {w:World} (h:zBs w):3<w.heap.size:=by
 unfold zBs Lib.TabIs World.var? at h
 rw[global_pow10] at h
 rcases Nat.lt_or_ge 3 w.heap.size with h'|h'
 ·exact h'
 ·simp only[Option.bind_some] at h
  rw[Array.getElem?_eq_none h'] at h
  simp at h
theorem zBs.same {w w':World} (h:zBs w) (hs:w'.heap[3]? =w.heap[3]?):zBs w':=by
 unfold zBs Lib.TabIs World.var? at *
 rw[global_pow10] at *
 simp only[Option.bind_some] at *
 rw[hs]
 exact h
theorem zBs.below {w w':World} (h:zBs w) {B:Nat} (hb:Below B w w') (hB:w.heap.size<=B):zBs w':=h.same (hb.block _ (Nat.lt_of_lt_of_le h.lt hB))
set_option maxHeartbeats 6400000 in
theorem FormatUint_big (u:Nat) (hu:100<=u) (hu64:u<18446744073709551616) (w:World) (htab:zBs w):Rt 103 #[.int .u64 u,.int .i64 10] w (.string ⟨(Lib.decDigits u).toArray⟩):=by
 have hu1:1<=u:=by omega
 have hnd20:Lib.nDigits u<=20:=by have:=Lib.numDigits_eq u hu1 hu64;split at this<;>omega
 have hal:Tryz.prog.arrayLen 217=24:=by kernel_rfl
 have hsl:∀ W,(Instr.sliceAt 217 (.pointer (some ⟨w.heap.size,0,none⟩)) none (some (.int .i64 (Lib.nDigits u:Int))) none).run Tryz.prog W=.ok (.slice (some ⟨w.heap.size,0,none⟩) (Lib.nDigits u) 24) W:=fun W=>by
  rw[run_sliceAt_array_h W 217 ⟨w.heap.size,0,none⟩ (by kernel_rfl) .i64 (Lib.nDigits u:Int) (by omega) (by rw[hal];omega)]
  go_simp
 have hH0:=Lib.holds_zero0 w 217 (Lib.nDigits u) (by omega)
 have hfmt:=Tryz.internal_strconv_formatBase10 w.heap.size 0 24 u (Array.replicate (Lib.nDigits u) 0) (w.alloc (.cells Lib.zeros24 217)) hH0 (by rw[Array.size_replicate];exact Lib.lt_pow_nDigits u) hu64 (by rw[Array.size_replicate];omega)
 rw[Array.size_replicate] at hfmt
 have HH0:=zh hH0
 have iu: ¬ ((u:Int)<100):=by omega
 clear hH0 hal
 go_enter Tryz.func103,Tryz.ntmps103
 go_wp2_with(first
  | (go_at_call 138;refine(Tryz.internal_strconv_numDigits u hu1 hu64 _ (Lib.tabIs_alloc htab _)).mono ?_;rintro e w' ⟨rfl,rfl⟩))
 go_at_call 139
 refine hfmt.mono ?_
 rintro e w' ⟨rfl,k,v',dk,rfl,hF⟩
 have hcv:(convert 219 9 (.slice (some ⟨w.heap.size,0,none⟩) (Lib.nDigits u) 24)).run Tryz.prog ((putRow (fun (b:UInt8)=>Value.int .u8 (b.toNat:Int)) (w.alloc (.cells Lib.zeros24 217)) w.heap.size 0 dk).drewN k)=.ok (.string ⟨(Lib.decDigits u).toArray⟩) ((putRow (fun (b:UInt8)=>Value.int .u8 (b.toNat:Int)) (w.alloc (.cells Lib.zeros24 217)) w.heap.size 0 dk).drewN k):=by
  have h:=run_convert_bytes_back (P:=Tryz.prog) ((putRow (fun (b:UInt8)=>Value.int .u8 (b.toNat:Int)) (w.alloc (.cells Lib.zeros24 217)) w.heap.size 0 dk).drewN k) 219 9 5 ⟨w.heap.size,0,none⟩ 24 (Lib.decDigits u) Tryz.underlying219 Tryz.underlying5 Tryz.underlying9 (fun j hj=>by
   rw[Lib.row_is_numeral hF j hj,Lib.add_plain,World.cell?_drewN]
   exact cell?_putRow (fun (b:UInt8)=>Value.int .u8 (b.toNat:Int)) _ w.heap.size 0 _ dk HH0.out (by rw[hF.size,Array.size_replicate]) j (by rw[hF.size];rw[Lib.decDigits_length] at hj;exact hj))
  rw[Lib.decDigits_length] at h
  exact h
 go_wp2
 go_ret
 obtain⟨os,eo⟩:=Lib.fin_at w (.cells Lib.zeros24 217) dk k 0
 refine⟨rfl,?_⟩
 rw[eo]
 exact Lib.below_grow w.heap.size w (Nat.le_refl _) k os
theorem FormatUint (u:Nat) (hu64:u<18446744073709551616) (w:World) (htab:zBs w):Rt 103 #[.int .u64 u,.int .i64 10] w (.string ⟨(Lib.decDigits u).toArray⟩):=by
 by_cases hu:100<=u
 ·exact FormatUint_big u hu hu64 w htab
 ·have iu:(u:Int)<100:=by omega
  go_enter Tryz.func103,Tryz.ntmps103
  go_wp2_with(go_at_call 137;refine(Tryz.internal_strconv_small u (by omega) _).mono ?_;rintro e w' ⟨rfl,rfl⟩)
  go_ret
  exact⟨rfl,bel⟩
theorem strconv_FormatUint (u:Nat) (hu64:u<18446744073709551616) (w:World) (htab:zBs w):Rt 81 #[.int .u64 u,.int .i64 10] w (.string ⟨(Lib.decDigits u).toArray⟩):=by
 go_enter Tryz.func81,Tryz.ntmps81
 go_wp2_with(go_at_call 103;refine(FormatUint u hu64 _ (htab.below bel (Nat.le_refl _))).mono ?_;rintro e w' ⟨rfl,hb⟩;obtain⟨l1,l2,rfl⟩:=zA0 hb;clear hb)
 go_ret
 exact⟨rfl,bel⟩
end Go.Proofs.YtppghgnhlgoagaaGreatDoor
namespace Go.Proofs.YtppghgnhlgoagaaGreatDoor
open Go Go.RowKit
open Go.Lib renaming hid->zh
def numS (n:Nat):ByteArray:=⟨(Lib.decDigits n).toArray⟩
def fracS (r:Nat):ByteArray:=⟨(Lib.trimRightB (((numS (10000+r)).extract 1 (numS (10000+r)).size).data.toList) 48).toArray⟩
def headS (x:Int):ByteArray:=if x<0 then (⟨#[45]⟩:ByteArray)++numS (x.natAbs / 10000) else numS (x.natAbs / 10000)
def printS (x:Int):ByteArray:=if x=minI then ⟨#[]⟩ else if x.natAbs % 10000=0 then headS x else headS x++((⟨#[46]⟩:ByteArray)++fracS (x.natAbs % 10000))
def zAR (v:V):ByteArray×Int:=if mayG v=false then (⟨#[]⟩,8) else if v.tag=4 then (⟨#[]⟩,v.code) else if v.tag=1 then (printS v.num,0) else if v.tag=3 then (if v.is then ⟨#[84,82,85,69]⟩ else ⟨#[70,65,76,83,69]⟩,0) else (v.str,0)
def catG (text:Int) (a b:V):V:=if (zAR a).2≠0 then errG (zAR a).2 else if (zAR b).2≠0 then errG (zAR b).2 else if text<(zAR a).1.size+(zAR b).1.size then errG 7 else txtG ((zAR a).1++(zAR b).1)
def twoG (text:Int) (op:Int) (a b:V):V:=if 3<=op/\op<=6 then sumsG op a b else if op=7 then catG text a b else zBy op a b
theorem size_mk (l:List UInt8):(⟨l.toArray⟩:ByteArray).size=l.length:=List.size_toArray
theorem len_data (b:ByteArray):b.data.toList.length=b.size:=Array.length_toList
theorem numS_len (n:Nat):(numS n).size=Lib.nDigits n:=by
 rw[<- Lib.decDigits_length]
 exact size_mk _
theorem numS_le (n:Nat) (h:n<18446744073709551616):(numS n).size<=20:=by
 rw[numS_len]
 by_cases h0:n=0
 ·rw[Lib.nDigits_small (by omega)]
  decide
 ·have:=Lib.numDigits_eq n (by omega) h
  split at this<;>omega
theorem numS_pos (n:Nat) (h:1<=n):1<=(numS n).size:=by
 rw[numS_len]
 rcases Nat.eq_zero_or_pos (Lib.nDigits n) with h0|h0
 ·have:=Lib.lt_pow_nDigits n
  rw[h0] at this
  omega
 ·exact h0
theorem trim_le (l:List UInt8) (c:UInt8):(Lib.trimRightB l c).length<=l.length:=by
 unfold Lib.trimRightB
 rw[List.length_reverse]
 exact Nat.le_trans (List.IsSuffix.length_le (List.dropWhile_suffix _)) (by rw[List.length_reverse];exact Nat.le_refl _)
theorem fracS_le (r:Nat) (h:r<10000):(fracS r).size<=20:=by
 have h1:(fracS r).size=(Lib.trimRightB (((numS (10000+r)).extract 1 (numS (10000+r)).size).data.toList) 48).length:=size_mk _
 have h2:=trim_le (((numS (10000+r)).extract 1 (numS (10000+r)).size).data.toList) 48
 have h3:(((numS (10000+r)).extract 1 (numS (10000+r)).size).data.toList).length=((numS (10000+r)).extract 1 (numS (10000+r)).size).size:=len_data _
 have h4:=numS_le (10000+r) (by omega)
 rw[ByteArray.size_extract] at h3
 omega
theorem fmt_num (u:Nat) (hu64:u<18446744073709551616) (w:World) (htab:zBs w):Rt 81 #[.int .u64 u,.int .i64 10] w (.string (numS u)):=by
 unfold numS
 exact strconv_FormatUint u hu64 w htab
theorem trim_num (r z:Nat) (hz:10000+r=z) (hr:r<10000) (w:World):Calls Tryz.prog 82 #[.string ((numS z).extract 1 (numS z).size),.string ⟨#[48]⟩] w fun e w'=>e=.returned (.string (fracS r))/\w'=w:=by
 subst hz
 have h4:=numS_le (10000+r) (by omega)
 have h5:((numS (10000+r)).extract 1 (numS (10000+r)).size).size<=9223372036854775807:=by
  rw[ByteArray.size_extract]
  omega
 have h6:=Tryz.strings_TrimRight_one ((numS (10000+r)).extract 1 (numS (10000+r)).size) 48 (by decide) w h5
 have e:fracS r=⟨(Lib.trimRightB (((numS (10000+r)).extract 1 (numS (10000+r)).size).data.toList) 48).toArray⟩:=rfl
 rw[e]
 exact h6
theorem dec_Print (x:Int) (h:Is64 x) (w:World) (hp:zBs w):Rt 64 #[.int .i64 x] w (.string (printS x)):=by
 by_cases h1:x=minI
 ·rw[show printS x=⟨#[]⟩ from if_pos h1]
  clear h
  go_enter Tryz.func64,Tryz.ntmps64
  go_wp2_with(go_at_call 56;refine(zAM _ _).mono ?_;rintro e w1 ⟨rfl,rfl⟩)
  go_ret
  exact⟨rfl,bel⟩
 have m1:(x != minI)=true:=by simp[h1]
 have na:=natAbs_lt h
 have es:printS x=if x.natAbs % 10000=0 then headS x else headS x++((⟨#[46]⟩:ByteArray)++fracS (x.natAbs % 10000)):=if_neg h1
 have eh:headS x=if x<0 then (⟨#[45]⟩:ByteArray)++numS (x.natAbs / 10000) else numS (x.natAbs / 10000):=rfl
 obtain⟨n,hn⟩:∃ n,x.natAbs=n:=⟨_,rfl⟩
 rw[hn] at na es eh
 obtain⟨k,hk⟩:∃ k,n / 10000=k:=⟨_,rfl⟩
 obtain⟨r,hr⟩:∃ r,n % 10000=r:=⟨_,rfl⟩
 rw[hk] at eh
 rw[hr] at es
 have k1:(n:Int) / 10000=(k:Int):=by omega
 have k2:(n:Int) % 10000=(r:Int):=by omega
 have k3:IntKind.u64.wrap (k:Int)=(k:Int):=by rw[IntKind.wrap_u64];omega
 obtain⟨z,hz⟩:∃ z,10000+r=z:=⟨_,rfl⟩
 have k4:IntKind.u64.wrap (10000+(r:Int))=(z:Int):=by rw[IntKind.wrap_u64];omega
 have KZ:=zh (show z<18446744073709551616 by omega)
 have KK:=zh (show k<18446744073709551616 by omega)
 have sk:=numS_le k (by omega)
 have sz:=numS_le z (by omega)
 have sz1:=numS_pos z (by omega)
 have sr:=fracS_le r (by omega)
 have HR:=zh (show r<10000 by omega)
 obtain⟨tk,htk⟩:∃ t,numS k=t:=⟨_,rfl⟩
 obtain⟨tz,htz⟩:∃ t,numS z=t:=⟨_,rfl⟩
 obtain⟨tf,htf⟩:∃ t,fracS r=t:=⟨_,rfl⟩
 rw[htk] at eh sk
 rw[htz] at sz sz1
 rw[htf] at es sr
 have HTK:=zh htk
 have HTZ:=zh htz
 have HTF:=zh htf
 have HTR:=zh (show ∀ w,Calls Tryz.prog 82 #[.string (tz.extract 1 tz.size),.string ⟨#[48]⟩] w fun e w'=>e=.returned (.string tf)/\w'=w from fun w=>by have h:=trim_num r z hz (by omega) w;rw[htz,htf] at h;exact h)
 clear htk htz htf
 have HZ:=zh hz
 have HN:=zh hn
 have HX:=zh h
 have ES:=zh es
 have EH:=zh eh
 have HP:=zh hp
 clear hz hn h es eh hp hk hr na
 go_enter Tryz.func64,Tryz.ntmps64
 go_wp2_with(first
  | (go_at_call 56;refine(zAM _ _).mono ?_;rintro e w1 ⟨rfl,rfl⟩)
  | (go_at_call 57;refine(zAj x HX.out _).mono ?_;rw[HN.out];rintro e w1 ⟨rfl,rfl⟩)
  | (go_at_call_of 81 (Value.int .u64 (k:Int));refine(fmt_num k KK.out _ (HP.out.below bel (Nat.le_refl _))).mono ?_;rw[HTK.out];rintro e w1 ⟨rfl,hb⟩;obtain⟨l1,l2,rfl⟩:=zA0 hb;clear hb)
  | (go_at_call_of 81 (Value.int .u64 (z:Int));refine(fmt_num z KZ.out _ (HP.out.below bel (Nat.le_refl _))).mono ?_;rw[HTZ.out];rintro e w1 ⟨rfl,hb⟩;obtain⟨l3,l4,rfl⟩:=zA0 hb;clear hb)
  | (go_at_call 82;refine(HTR.out _).mono ?_;rintro e w1 ⟨rfl,rfl⟩))
 all_goals go_ret
 all_goals refine⟨congrArg (fun s=>Ending.returned (Value.string s)) (?_:_=_),bel⟩
 all_goals rw[ES.out,EH.out]
 all_goals clear HTR HTK HTZ HTF ES EH HP HX HN HZ HR KZ KK
 all_goals by_cases hx:x<0
 all_goals by_cases hr0:r=0
 all_goals simp_all[lowX]
 all_goals try omega
theorem idx_bool (b:Bool) (w:World):(Instr.index 154 (.agg #[.string ⟨#[70,65,76,83,69]⟩,.string ⟨#[84,82,85,69]⟩]) (.int .i64 (truthI b))).run Tryz.prog w=.ok (.string (if b then ⟨#[84,82,85,69]⟩ else ⟨#[70,65,76,83,69]⟩)) w:=by
 cases b
 all_goals(show _=_;kernel_rfl)
theorem zB8 (v:V) (h:Is64 v.num) (w:World) (hp:zBs w):Rt 40 #[(vG v)] w (.tuple #[.string (zAR v).1,.int .i64 (zAR v).2]):=by
 have HP:=zh hp
 have HX:=zh h
 clear hp h
 by_cases hm:mayG v=false
 ·rw[show zAR v=(⟨#[]⟩,8) from if_pos hm]
  go_enter Tryz.func40,Tryz.ntmps40
  go_wp2_with(go_at_call 43;refine mB (zA8 v _) ?_;intro l1 l2)
  go_ret2
  exact⟨rfl,bel⟩
 have e1:zAR v=if v.tag=4 then (⟨#[]⟩,v.code) else if v.tag=1 then (printS v.num,0) else if v.tag=3 then (if v.is then ⟨#[84,82,85,69]⟩ else ⟨#[70,65,76,83,69]⟩,0) else (v.str,0):=if_neg hm
 replace hm:mayG v=true:=by simpa using hm
 by_cases h4:v.tag=4
 ·rw[e1,if_pos h4]
  have k4:(v.tag==4)=true:=by simp[h4]
  clear e1 h4
  go_enter Tryz.func40,Tryz.ntmps40
  go_wp2_with(go_at_call 43;refine mB (zA8 v _) ?_;intro l1 l2)
  go_quiet (fail)
  all_goals go_wp2
  all_goals go_ret2
  all_goals exact⟨rfl,bel⟩
 rw[if_neg h4] at e1
 have k4:(v.tag==4)=false:=by simp[h4]
 by_cases h1:v.tag=1
 ·rw[e1,if_pos h1]
  have k1:(v.tag==1)=true:=by simp[h1]
  clear e1 h4 h1
  go_enter Tryz.func40,Tryz.ntmps40
  go_wp2_with(first
   | (go_at_call 43;refine mB (zA8 v _) ?_;intro l1 l2)
   | (go_at_call 64;refine mB (dec_Print v.num HX.out _ (HP.out.below bel (Nat.le_refl _))) ?_;intro l3 l4))
  go_ret2
  exact⟨rfl,bel⟩
 rw[if_neg h1] at e1
 have k1:(v.tag==1)=false:=by simp[h1]
 by_cases h3:v.tag=3
 ·rw[e1,if_pos h3]
  have k3:(v.tag==3)=true:=by simp[h3]
  have q:=idx_bool
  clear e1 h4 h1 h3
  go_enter Tryz.func40,Tryz.ntmps40
  go_wp2_with(first
   | (go_at_call 43;refine mB (zA8 v _) ?_;intro l1 l2)
   | (go_at_call 54;refine(value_truth _ _).mono ?_;rintro e w1 ⟨rfl,rfl⟩))
  all_goals go_ret2
  all_goals exact⟨rfl,bel⟩
 rw[if_neg h3] at e1
 have k3:(v.tag==3)=false:=by simp[h3]
 rw[e1]
 clear e1 h4 h1 h3
 go_enter Tryz.func40,Tryz.ntmps40
 go_wp2_with(go_at_call 43;refine mB (zA8 v _) ?_;intro l1 l2)
 go_ret2
 exact⟨rfl,bel⟩
end Go.Proofs.YtppghgnhlgoagaaGreatDoor
