/- Parts. -/
import Derived.Test.YtppghgnhlgoagaaGreatDoorG01
import Derived.Shelf.Strings.SlTrimAscii
import Derived.Shelf.Strings.Builder1
import Derived.Shelf.Strings.Builder2
import Derived.Shelf.Strings.OnBuilder
import Derived.Shelf.Strings.Trim
import Derived.Shelf.Small.Utf8
import Derived.Shelf.Small.Bits
import Derived.Shelf.Small.Strs
import Derived.Shelf.Small.Wraps
import Derived.Shelf.Strings.BuilderF
import Derived.Shelf.Strings.BuilderK
import Derived.Shelf.Strings.Builder2Cap
import Derived.Shelf.LaysM
import Derived.Shelf.Strconv.Clone
import Derived.Shelf.Strconv.SyntaxError
import Derived.Shelf.LaysC
import Derived.Shelf.Strconv.ToError
import Derived.Shelf.Strconv.Lower
import Derived.Shelf.Strconv.ParseUint10
import Derived.Shelf.Strconv.ParseUint10Empty
import Derived.Shelf.Strconv.ParseUint10Any
import Derived.Shelf.Strconv.RangeError
import Derived.Shelf.Strconv.ToErrorRange
import Derived.Shelf.Strconv.ParseUintEmpty
import Derived.Shelf.Strconv.ParseUint10b64
import Derived.Shelf.Strconv.ParseUint10b32
import Derived.Shelf.Strconv.ParseUint10b16
import Derived.Shelf.Strconv.ParseUint10b8
import Derived.Shelf.Strconv.ParseUint10At
import Derived.Ground.MpProg
import Derived.Shelf.Pu.ParseUintPublic10
import Derived.Shelf.Pu.ErrVarParseUint
import Derived.Shelf.Strings.Search1
import Derived.Shelf.Strings.Search2
import Derived.Shelf.Strings.Search3
import Derived.Shelf.Strings.Cut
import Derived.Shelf.Strings.Shaped
import Derived.Shelf.Strings.Prefix
import Derived.Shelf.Strings.Repeat
import Derived.Shelf.Strings.BuilderCap
import Derived.Ground.SlgnProg
import Derived.Shelf.SlicesG.Turned
import Derived.Shelf.SlicesG.SearchI
import Derived.Ground.SlgmProg
import Derived.Shelf.SortM.Plain
import Derived.Shelf.SortM.SortNone
set_option linter.all false
set_option maxRecDepth 100000
set_option maxHeartbeats 4000000
namespace Go.Proofs
open Go.Shelf
def Tryz.lays170_ren:Go.Shelf.Ren:=⟨fun|170=>256|n=>n,fun|70=>278|3=>3|0=>0|72=>280|37=>219|5=>5|n=>n,fun|n=>n⟩
theorem Tryz.lays170:Go.Proofs.Lays.n170 Tryz.prog Tryz.lays170_ren:= {
 mixed:=by kernel_rfl
 f170:=Tryz.func256.trans (congrArg some (by kernel_rfl))
 t0:=Tryz.underlying0
 a0:=Tryz.isAgg0
 z0:=Tryz.sizeOf0
 v0:=Tryz.zeroValue0
 t3:=Tryz.underlying3
 a3:=Tryz.isAgg3
 z3:=Tryz.sizeOf3
 v3:=Tryz.zeroValue3
 t37:=Tryz.underlying219
 a37:=Tryz.isAgg219
 z37:=Tryz.sizeOf219
 v37:=Tryz.zeroValue219
 t70:=Tryz.underlying278
 a70:=Tryz.isAgg278
 z70:=Tryz.sizeOf278
 v70:=Tryz.zeroValue278
 t72:=Tryz.underlying280
 a72:=Tryz.isAgg280
 z72:=Tryz.sizeOf280
 v72:=Tryz.zeroValue280 }
open Go.RowKit in
theorem Tryz.Builder_Len (B b:Nat) (bs:List Value) (w:World) (h:Lib.IsBuilder 280 5 B b bs w) :
 Calls Tryz.prog 256 #[.pointer (some ⟨b,0,none⟩)] w fun e w'=>e=.returned (.int .i64 bs.length)/\w'=w:=Any.Builder_Len Tryz.lays170 B b bs w h
def Tryz.lays169_ren:Go.Shelf.Ren:=⟨fun|169=>258|n=>n,fun|70=>278|9=>9|0=>0|72=>280|37=>219|127=>316|3=>3|5=>5|n=>n,fun|n=>n⟩
theorem Tryz.lays169:Go.Proofs.Lays.n169 Tryz.prog Tryz.lays169_ren:= {
 mixed:=by kernel_rfl
 f169:=Tryz.func258.trans (congrArg some (by kernel_rfl))
 t0:=Tryz.underlying0
 a0:=Tryz.isAgg0
 z0:=Tryz.sizeOf0
 v0:=Tryz.zeroValue0
 t3:=Tryz.underlying3
 a3:=Tryz.isAgg3
 z3:=Tryz.sizeOf3
 v3:=Tryz.zeroValue3
 t9:=Tryz.underlying9
 a9:=Tryz.isAgg9
 z9:=Tryz.sizeOf9
 v9:=Tryz.zeroValue9
 t37:=Tryz.underlying219
 a37:=Tryz.isAgg219
 z37:=Tryz.sizeOf219
 v37:=Tryz.zeroValue219
 t70:=Tryz.underlying278
 a70:=Tryz.isAgg278
 z70:=Tryz.sizeOf278
 v70:=Tryz.zeroValue278
 t72:=Tryz.underlying280
 a72:=Tryz.isAgg280
 z72:=Tryz.sizeOf280
 v72:=Tryz.zeroValue280
 t127:=Tryz.underlying316
 a127:=Tryz.isAgg316
 z127:=Tryz.sizeOf316
 v127:=Tryz.zeroValue316 }
theorem Tryz.Builder_Extra_169:Builder.Extra Tryz.prog Tryz.lays169_ren:= {
 sizeBuilder:=by kernel_rfl
 liesBuilder:=by kernel_rfl
 t5:=Tryz.underlying5
 a5:=Tryz.isAgg5
 z5:=Tryz.sizeOf5
 v5:=Tryz.zeroValue5
 infoByte:=by kernel_rfl
 cellsByte:=by kernel_rfl
 sizeByte:=by kernel_rfl
 neB5:=by decide }
open Go.RowKit in
theorem Tryz.Builder_String_any (B b:Nat) (l:List UInt8) (w:World) (h:Lib.IsBuilder 280 5 B b (Lib.byteCells l) w) (hBw:B<=w.heap.size) :
 Calls Tryz.prog 258 #[.pointer (some ⟨b,0,none⟩)] w fun e w'=>e=.returned (.string ⟨l.toArray⟩)/\Below B w w':=Any.Builder_String_any Tryz.lays169 Tryz.Builder_Extra_169 B b l w h hBw
def Tryz.lays156_ren:Go.Shelf.Ren:=⟨fun|156=>253|165=>261|166=>257|169=>258|240=>295|241=>298|276=>309|277=>310|n=>n,fun|31=>175|9=>9|3=>3|4=>4|0=>0|20=>20|72=>280|76=>284|70=>278|37=>219|75=>163|127=>316|164=>262|5=>5|80=>286|n=>n,fun|n=>n⟩
theorem Tryz.lays156:Go.Proofs.Lays.n156 Tryz.prog Tryz.lays156_ren:= {
 mixed:=by kernel_rfl
 f156:=Tryz.func253.trans (congrArg some (by kernel_rfl))
 f165:=Tryz.func261.trans (congrArg some (by kernel_rfl))
 f166:=Tryz.func257.trans (congrArg some (by kernel_rfl))
 f169:=Tryz.func258.trans (congrArg some (by kernel_rfl))
 f240:=Tryz.func295.trans (congrArg some (by kernel_rfl))
 f241:=Tryz.func298.trans (congrArg some (by kernel_rfl))
 f276:=Tryz.func309.trans (congrArg some (by kernel_rfl))
 f277:=Tryz.func310.trans (congrArg some (by kernel_rfl))
 t0:=Tryz.underlying0
 a0:=Tryz.isAgg0
 z0:=Tryz.sizeOf0
 v0:=Tryz.zeroValue0
 t3:=Tryz.underlying3
 a3:=Tryz.isAgg3
 z3:=Tryz.sizeOf3
 v3:=Tryz.zeroValue3
 t4:=Tryz.underlying4
 a4:=Tryz.isAgg4
 z4:=Tryz.sizeOf4
 v4:=Tryz.zeroValue4
 t9:=Tryz.underlying9
 a9:=Tryz.isAgg9
 z9:=Tryz.sizeOf9
 v9:=Tryz.zeroValue9
 t20:=Tryz.underlying20
 a20:=Tryz.isAgg20
 z20:=Tryz.sizeOf20
 v20:=Tryz.zeroValue20
 t31:=Tryz.underlying175
 a31:=Tryz.isAgg175
 z31:=Tryz.sizeOf175
 v31:=Tryz.zeroValue175
 t37:=Tryz.underlying219
 a37:=Tryz.isAgg219
 z37:=Tryz.sizeOf219
 v37:=Tryz.zeroValue219
 t70:=Tryz.underlying278
 a70:=Tryz.isAgg278
 z70:=Tryz.sizeOf278
 v70:=Tryz.zeroValue278
 t72:=Tryz.underlying280
 a72:=Tryz.isAgg280
 z72:=Tryz.sizeOf280
 v72:=Tryz.zeroValue280
 t75:=Tryz.underlying163
 a75:=Tryz.isAgg163
 z75:=Tryz.sizeOf163
 v75:=Tryz.zeroValue163
 t76:=Tryz.underlying284
 a76:=Tryz.isAgg284
 z76:=Tryz.sizeOf284
 v76:=Tryz.zeroValue284
 t127:=Tryz.underlying316
 a127:=Tryz.isAgg316
 z127:=Tryz.sizeOf316
 v127:=Tryz.zeroValue316
 t164:=Tryz.underlying262
 a164:=Tryz.isAgg262
 z164:=Tryz.sizeOf262
 v164:=Tryz.zeroValue262 }
theorem Tryz.Builder_Extra_156:Builder.Extra Tryz.prog Tryz.lays156_ren:= {
 sizeBuilder:=by kernel_rfl
 liesBuilder:=by kernel_rfl
 t5:=Tryz.underlying5
 a5:=Tryz.isAgg5
 z5:=Tryz.sizeOf5
 v5:=Tryz.zeroValue5
 infoByte:=by kernel_rfl
 cellsByte:=by kernel_rfl
 sizeByte:=by kernel_rfl
 neB5:=by decide }
open Go.RowKit in
theorem Tryz.strings_Join_none (a:Option Addr) (c:Nat) (sep:ByteArray) (w:World) :
 Calls Tryz.prog 253 #[.slice a 0 c,.string sep] w fun e w'=>e=.returned (.string ⟨#[]⟩)/\w'=w:=Any.strings_Join_none Tryz.lays156 Tryz.Builder_Extra_156 a c sep w
open Go.RowKit in
theorem Tryz.strings_Join (bk o c:Nat) (xs:List ByteArray) (sep:ByteArray) (w:World) (hcells:∀ (j:Nat) x,xs[j]? =some x->w.cell? ⟨bk,o+j,none⟩=some (.string x)) (hbk:bk<w.heap.size) (hN:xs.length<=140737488355328) (hcap:xs.length<=c) (hlen:(Lib.join (xs.map (·.data.toList)) sep.data.toList).length<=140737488355328) :
 Calls Tryz.prog 253 #[.slice (some ⟨bk,o,none⟩) xs.length c,.string sep] w fun e w'=>e=.returned (.string ⟨(Lib.join (xs.map (·.data.toList)) sep.data.toList).toArray⟩)/\Below w.heap.size w w':=Any.strings_Join Tryz.lays156 Tryz.Builder_Extra_156 bk o c xs sep w hcells hbk hN hcap hlen
def Tryz.lays160_ren:Go.Shelf.Ren:=⟨fun|160=>312|232=>104|231=>328|227=>105|234=>106|233=>329|236=>107|235=>330|228=>141|271=>142|151=>143|197=>231|120=>230|152=>232|260=>279|137=>280|119=>281|224=>282|225=>283|217=>306|266=>326|n=>n,fun|9=>9|4=>4|3=>3|5=>5|117=>180|116=>179|0=>0|124=>183|21=>21|105=>223|46=>161|119=>327|139=>330|138=>329|n=>n,fun|3=>6|4=>7|n=>n⟩
theorem Tryz.lays160:Go.Proofs.Lays.n160 Tryz.prog Tryz.lays160_ren:= {
 mixed:=by kernel_rfl
 f119:=Tryz.func281.trans (congrArg some (by kernel_rfl))
 f120:=Tryz.func230.trans (congrArg some (by kernel_rfl))
 f137:=Tryz.func280.trans (congrArg some (by kernel_rfl))
 f151:=Tryz.func143.trans (congrArg some (by kernel_rfl))
 f152:=Tryz.func232.trans (congrArg some (by kernel_rfl))
 f160:=Tryz.func312.trans (congrArg some (by kernel_rfl))
 f197:=Tryz.func231.trans (congrArg some (by kernel_rfl))
 f217:=Tryz.func306.trans (congrArg some (by kernel_rfl))
 f224:=Tryz.func282.trans (congrArg some (by kernel_rfl))
 f225:=Tryz.func283.trans (congrArg some (by kernel_rfl))
 f227:=Tryz.func105.trans (congrArg some (by kernel_rfl))
 f228:=Tryz.func141.trans (congrArg some (by kernel_rfl))
 f231:=Tryz.func328.trans (congrArg some (by kernel_rfl))
 f232:=Tryz.func104.trans (congrArg some (by kernel_rfl))
 f233:=Tryz.func329.trans (congrArg some (by kernel_rfl))
 f234:=Tryz.func106.trans (congrArg some (by kernel_rfl))
 f235:=Tryz.func330.trans (congrArg some (by kernel_rfl))
 f236:=Tryz.func107.trans (congrArg some (by kernel_rfl))
 f260:=Tryz.func279.trans (congrArg some (by kernel_rfl))
 f266:=Tryz.func326.trans (congrArg some (by kernel_rfl))
 f271:=Tryz.func142.trans (congrArg some (by kernel_rfl))
 t0:=Tryz.underlying0
 a0:=Tryz.isAgg0
 z0:=Tryz.sizeOf0
 v0:=Tryz.zeroValue0
 t3:=Tryz.underlying3
 a3:=Tryz.isAgg3
 z3:=Tryz.sizeOf3
 v3:=Tryz.zeroValue3
 t4:=Tryz.underlying4
 a4:=Tryz.isAgg4
 z4:=Tryz.sizeOf4
 v4:=Tryz.zeroValue4
 t5:=Tryz.underlying5
 a5:=Tryz.isAgg5
 z5:=Tryz.sizeOf5
 v5:=Tryz.zeroValue5
 t9:=Tryz.underlying9
 a9:=Tryz.isAgg9
 z9:=Tryz.sizeOf9
 v9:=Tryz.zeroValue9
 t21:=Tryz.underlying21
 a21:=Tryz.isAgg21
 z21:=Tryz.sizeOf21
 v21:=Tryz.zeroValue21
 t46:=Tryz.underlying161
 a46:=Tryz.isAgg161
 z46:=Tryz.sizeOf161
 v46:=Tryz.zeroValue161
 t105:=Tryz.underlying223
 a105:=Tryz.isAgg223
 z105:=Tryz.sizeOf223
 v105:=Tryz.zeroValue223
 t116:=Tryz.underlying179
 a116:=Tryz.isAgg179
 z116:=Tryz.sizeOf179
 t117:=Tryz.underlying180
 a117:=Tryz.isAgg180
 z117:=Tryz.sizeOf180
 v117:=Tryz.zeroValue180
 t119:=Tryz.underlying327
 a119:=Tryz.isAgg327
 z119:=Tryz.sizeOf327
 t124:=Tryz.underlying183
 a124:=Tryz.isAgg183
 z124:=Tryz.sizeOf183
 v124:=Tryz.zeroValue183
 t138:=Tryz.underlying329
 a138:=Tryz.isAgg329
 z138:=Tryz.sizeOf329
 v138:=Tryz.zeroValue329
 t139:=Tryz.underlying330
 a139:=Tryz.isAgg330
 z139:=Tryz.sizeOf330
 v139:=Tryz.zeroValue330
 g3:=by kernel_rfl
 g4:=by kernel_rfl }
def Tryz.lays103_ren:Go.Shelf.Ren:=⟨fun|103=>299|210=>311|206=>297|n=>n,fun|9=>9|4=>4|24=>319|3=>3|n=>n,fun|n=>n⟩
theorem Tryz.lays103:Go.Proofs.Lays.n103 Tryz.prog Tryz.lays103_ren:= {
 mixed:=by kernel_rfl
 f103:=Tryz.func299.trans (congrArg some (by kernel_rfl))
 f206:=Tryz.func297.trans (congrArg some (by kernel_rfl))
 f210:=Tryz.func311.trans (congrArg some (by kernel_rfl))
 t3:=Tryz.underlying3
 a3:=Tryz.isAgg3
 z3:=Tryz.sizeOf3
 v3:=Tryz.zeroValue3
 t4:=Tryz.underlying4
 a4:=Tryz.isAgg4
 z4:=Tryz.sizeOf4
 v4:=Tryz.zeroValue4
 t9:=Tryz.underlying9
 a9:=Tryz.isAgg9
 z9:=Tryz.sizeOf9
 v9:=Tryz.zeroValue9
 t24:=Tryz.underlying319
 a24:=Tryz.isAgg319
 z24:=Tryz.sizeOf319
 v24:=Tryz.zeroValue319 }
open Go.RowKit in
theorem Tryz.strings_CutPrefix (s p:ByteArray) (w:World) :
 Calls Tryz.prog 299 #[.string s,.string p] w fun e w'=>e=.returned (.tuple #[.string ⟨(Lib.trimPrefix s.data.toList p.data.toList).toArray⟩,.bool (Lib.hasPrefix s.data.toList p.data.toList)])/\w'=w:=Any.strings_CutPrefix Tryz.lays103 s p w
def Tryz.laysPu14_ren:Go.Shelf.Ren:=⟨fun|14=>301|16=>313|17=>314|19=>331|20=>332|21=>333|22=>334|23=>335|24=>336|25=>342|27=>344|26=>343|28=>346|29=>347|30=>137|31=>138|32=>139|33=>140|35=>102|34=>226|36=>227|37=>228|38=>229|39=>277|40=>278|n=>n,fun|9=>9|3=>3|22=>146|24=>163|25=>322|4=>4|34=>344|5=>5|36=>161|37=>219|0=>0|39=>346|21=>21|44=>356|47=>316|50=>363|48=>361|2=>2|52=>217|55=>220|59=>253|60=>70|20=>20|61=>254|65=>325|66=>326|67=>286|n=>n,fun|0=>8|1=>9|2=>3|3=>4|4=>5|n=>n⟩
theorem Tryz.laysPu14:Go.Proofs.LaysPu.n14 Tryz.prog Tryz.laysPu14_ren:= {
 mixed:=by kernel_rfl
 f14:=Tryz.func301.trans (congrArg some (by kernel_rfl))
 f16:=Tryz.func313.trans (congrArg some (by kernel_rfl))
 f17:=Tryz.func314.trans (congrArg some (by kernel_rfl))
 f19:=Tryz.func331.trans (congrArg some (by kernel_rfl))
 f20:=Tryz.func332.trans (congrArg some (by kernel_rfl))
 f21:=Tryz.func333.trans (congrArg some (by kernel_rfl))
 f22:=Tryz.func334.trans (congrArg some (by kernel_rfl))
 f23:=Tryz.func335.trans (congrArg some (by kernel_rfl))
 f24:=Tryz.func336.trans (congrArg some (by kernel_rfl))
 f25:=Tryz.func342.trans (congrArg some (by kernel_rfl))
 f26:=Tryz.func343.trans (congrArg some (by kernel_rfl))
 f27:=Tryz.func344.trans (congrArg some (by kernel_rfl))
 f28:=Tryz.func346.trans (congrArg some (by kernel_rfl))
 f29:=Tryz.func347.trans (congrArg some (by kernel_rfl))
 f30:=Tryz.func137.trans (congrArg some (by kernel_rfl))
 f31:=Tryz.func138.trans (congrArg some (by kernel_rfl))
 f32:=Tryz.func139.trans (congrArg some (by kernel_rfl))
 f33:=Tryz.func140.trans (congrArg some (by kernel_rfl))
 f34:=Tryz.func226.trans (congrArg some (by kernel_rfl))
 f35:=Tryz.func102.trans (congrArg some (by kernel_rfl))
 f36:=Tryz.func227.trans (congrArg some (by kernel_rfl))
 f37:=Tryz.func228.trans (congrArg some (by kernel_rfl))
 f38:=Tryz.func229.trans (congrArg some (by kernel_rfl))
 f39:=Tryz.func277.trans (congrArg some (by kernel_rfl))
 f40:=Tryz.func278.trans (congrArg some (by kernel_rfl))
 t0:=Tryz.underlying0
 a0:=Tryz.isAgg0
 z0:=Tryz.sizeOf0
 v0:=Tryz.zeroValue0
 i0:=by kernel_rfl
 t2:=Tryz.underlying2
 a2:=Tryz.isAgg2
 z2:=Tryz.sizeOf2
 v2:=Tryz.zeroValue2
 i2:=by kernel_rfl
 t3:=Tryz.underlying3
 a3:=Tryz.isAgg3
 z3:=Tryz.sizeOf3
 v3:=Tryz.zeroValue3
 i3:=by kernel_rfl
 t4:=Tryz.underlying4
 a4:=Tryz.isAgg4
 z4:=Tryz.sizeOf4
 v4:=Tryz.zeroValue4
 i4:=by kernel_rfl
 t5:=Tryz.underlying5
 a5:=Tryz.isAgg5
 z5:=Tryz.sizeOf5
 v5:=Tryz.zeroValue5
 i5:=by kernel_rfl
 t9:=Tryz.underlying9
 a9:=Tryz.isAgg9
 z9:=Tryz.sizeOf9
 v9:=Tryz.zeroValue9
 i9:=by kernel_rfl
 t20:=Tryz.underlying20
 a20:=Tryz.isAgg20
 z20:=Tryz.sizeOf20
 v20:=Tryz.zeroValue20
 i20:=by kernel_rfl
 t21:=Tryz.underlying21
 a21:=Tryz.isAgg21
 z21:=Tryz.sizeOf21
 v21:=Tryz.zeroValue21
 i21:=by kernel_rfl
 t22:=Tryz.underlying146
 a22:=Tryz.isAgg146
 z22:=Tryz.sizeOf146
 v22:=Tryz.zeroValue146
 i22:=by kernel_rfl
 t24:=Tryz.underlying163
 a24:=Tryz.isAgg163
 z24:=Tryz.sizeOf163
 v24:=Tryz.zeroValue163
 i24:=by kernel_rfl
 t25:=Tryz.underlying322
 a25:=Tryz.isAgg322
 z25:=Tryz.sizeOf322
 v25:=Tryz.zeroValue322
 i25:=by kernel_rfl
 t34:=Tryz.underlying344
 a34:=Tryz.isAgg344
 z34:=Tryz.sizeOf344
 v34:=Tryz.zeroValue344
 i34:=by kernel_rfl
 c34:=by kernel_rfl
 t36:=Tryz.underlying161
 a36:=Tryz.isAgg161
 z36:=Tryz.sizeOf161
 v36:=Tryz.zeroValue161
 i36:=by kernel_rfl
 t37:=Tryz.underlying219
 a37:=Tryz.isAgg219
 z37:=Tryz.sizeOf219
 v37:=Tryz.zeroValue219
 i37:=by kernel_rfl
 t39:=Tryz.underlying346
 a39:=Tryz.isAgg346
 z39:=Tryz.sizeOf346
 v39:=Tryz.zeroValue346
 i39:=by kernel_rfl
 t44:=Tryz.underlying356
 a44:=Tryz.isAgg356
 z44:=Tryz.sizeOf356
 v44:=Tryz.zeroValue356
 i44:=by kernel_rfl
 t47:=Tryz.underlying316
 a47:=Tryz.isAgg316
 z47:=Tryz.sizeOf316
 v47:=Tryz.zeroValue316
 i47:=by kernel_rfl
 t48:=Tryz.underlying361
 a48:=Tryz.isAgg361
 z48:=Tryz.sizeOf361
 v48:=Tryz.zeroValue361
 i48:=by kernel_rfl
 t50:=Tryz.underlying363
 a50:=Tryz.isAgg363
 z50:=Tryz.sizeOf363
 v50:=Tryz.zeroValue363
 i50:=by kernel_rfl
 t52:=Tryz.underlying217
 a52:=Tryz.isAgg217
 z52:=Tryz.sizeOf217
 v52:=Tryz.zeroValue217
 i52:=by kernel_rfl
 t55:=Tryz.underlying220
 a55:=Tryz.isAgg220
 z55:=Tryz.sizeOf220
 v55:=Tryz.zeroValue220
 i55:=by kernel_rfl
 t59:=Tryz.underlying253
 a59:=Tryz.isAgg253
 z59:=Tryz.sizeOf253
 v59:=Tryz.zeroValue253
 i59:=by kernel_rfl
 t60:=Tryz.underlying70
 a60:=Tryz.isAgg70
 z60:=Tryz.sizeOf70
 v60:=Tryz.zeroValue70
 i60:=by kernel_rfl
 t61:=Tryz.underlying254
 a61:=Tryz.isAgg254
 z61:=Tryz.sizeOf254
 t65:=Tryz.underlying325
 a65:=Tryz.isAgg325
 z65:=Tryz.sizeOf325
 v65:=Tryz.zeroValue325
 i65:=by kernel_rfl
 t66:=Tryz.underlying326
 a66:=Tryz.isAgg326
 z66:=Tryz.sizeOf326
 v66:=Tryz.zeroValue326
 i66:=by kernel_rfl
 t67:=Tryz.underlying286
 a67:=Tryz.isAgg286
 z67:=Tryz.sizeOf286
 v67:=Tryz.zeroValue286
 i67:=by kernel_rfl
 g0:=by kernel_rfl
 m0:=by kernel_rfl
 g1:=by kernel_rfl
 m1:=by kernel_rfl
 g2:=by kernel_rfl
 m2:=by kernel_rfl
 g3:=by kernel_rfl
 m3:=by kernel_rfl
 g4:=by kernel_rfl
 m4:=by kernel_rfl }
open Go.RowKit in
theorem Tryz.strconv_ParseUint_10_at64_ok (s:ByteArray) (hmax:s.size<=9223372036854775806) (u:Nat) (h:Lib.parseUintB 64 s.data.toList=.ok u) (w:World) :
 Calls Tryz.prog 301 #[.string s,.int .i64 10,.int .i64 64] w fun e w'=>e=.returned (.tuple #[.int .u64 u,.nilIface])/\(w'=w∨w'=Lib.bytesWorld w 5 s):=Any.strconv_ParseUint_10_at64_ok Tryz.laysPu14 s hmax u h w
def Tryz.lays143_ren:Go.Shelf.Ren:=⟨fun|143=>254|219=>293|217=>306|225=>283|224=>282|267=>308|266=>326|314=>327|n=>n,fun|9=>9|3=>3|4=>4|5=>5|46=>161|146=>317|51=>70|n=>n,fun|1=>2|n=>n⟩
theorem Tryz.lays143:Go.Proofs.Lays.n143 Tryz.prog Tryz.lays143_ren:= {
 mixed:=by kernel_rfl
 f143:=Tryz.func254.trans (congrArg some (by kernel_rfl))
 f217:=Tryz.func306.trans (congrArg some (by kernel_rfl))
 f219:=Tryz.func293.trans (congrArg some (by kernel_rfl))
 f224:=Tryz.func282.trans (congrArg some (by kernel_rfl))
 f225:=Tryz.func283.trans (congrArg some (by kernel_rfl))
 f266:=Tryz.func326.trans (congrArg some (by kernel_rfl))
 f267:=Tryz.func308.trans (congrArg some (by kernel_rfl))
 f314:=Tryz.func327.trans (congrArg some (by kernel_rfl))
 t3:=Tryz.underlying3
 a3:=Tryz.isAgg3
 z3:=Tryz.sizeOf3
 v3:=Tryz.zeroValue3
 t4:=Tryz.underlying4
 a4:=Tryz.isAgg4
 z4:=Tryz.sizeOf4
 v4:=Tryz.zeroValue4
 t5:=Tryz.underlying5
 a5:=Tryz.isAgg5
 z5:=Tryz.sizeOf5
 v5:=Tryz.zeroValue5
 t9:=Tryz.underlying9
 a9:=Tryz.isAgg9
 z9:=Tryz.sizeOf9
 v9:=Tryz.zeroValue9
 t46:=Tryz.underlying161
 a46:=Tryz.isAgg161
 z46:=Tryz.sizeOf161
 v46:=Tryz.zeroValue161
 t51:=Tryz.underlying70
 a51:=Tryz.isAgg70
 z51:=Tryz.sizeOf70
 v51:=Tryz.zeroValue70
 t146:=Tryz.underlying317
 a146:=Tryz.isAgg317
 z146:=Tryz.sizeOf317
 v146:=Tryz.zeroValue317
 g1:=by kernel_rfl }
open Go.RowKit Go.Lib in
theorem Tryz.strings_Index (s sub:ByteArray) (m:Int) (w:World) (hs:s.size<4294967281) (hm:w.cell? ⟨2,0,none⟩=some (.int .i64 m)) :
 Calls Tryz.prog 254 #[.string s,.string sub] w fun e w'=>e=.returned (.int .i64 (Lib.index s.data.toList sub.data.toList))/\w'=w:=Any.strings_Index Tryz.lays143 s sub m w hs hm
def Tryz.lays145_ren:Go.Shelf.Ren:=⟨fun|145=>255|220=>294|219=>293|217=>306|225=>283|224=>282|267=>308|266=>326|314=>327|n=>n,fun|9=>9|4=>4|59=>281|3=>3|5=>5|46=>161|146=>317|51=>70|n=>n,fun|1=>2|n=>n⟩
theorem Tryz.lays145:Go.Proofs.Lays.n145 Tryz.prog Tryz.lays145_ren:= {
 mixed:=by kernel_rfl
 f145:=Tryz.func255.trans (congrArg some (by kernel_rfl))
 f217:=Tryz.func306.trans (congrArg some (by kernel_rfl))
 f219:=Tryz.func293.trans (congrArg some (by kernel_rfl))
 f220:=Tryz.func294.trans (congrArg some (by kernel_rfl))
 f224:=Tryz.func282.trans (congrArg some (by kernel_rfl))
 f225:=Tryz.func283.trans (congrArg some (by kernel_rfl))
 f266:=Tryz.func326.trans (congrArg some (by kernel_rfl))
 f267:=Tryz.func308.trans (congrArg some (by kernel_rfl))
 f314:=Tryz.func327.trans (congrArg some (by kernel_rfl))
 t3:=Tryz.underlying3
 a3:=Tryz.isAgg3
 z3:=Tryz.sizeOf3
 v3:=Tryz.zeroValue3
 t4:=Tryz.underlying4
 a4:=Tryz.isAgg4
 z4:=Tryz.sizeOf4
 v4:=Tryz.zeroValue4
 t5:=Tryz.underlying5
 a5:=Tryz.isAgg5
 z5:=Tryz.sizeOf5
 v5:=Tryz.zeroValue5
 t9:=Tryz.underlying9
 a9:=Tryz.isAgg9
 z9:=Tryz.sizeOf9
 v9:=Tryz.zeroValue9
 t46:=Tryz.underlying161
 a46:=Tryz.isAgg161
 z46:=Tryz.sizeOf161
 v46:=Tryz.zeroValue161
 t51:=Tryz.underlying70
 a51:=Tryz.isAgg70
 z51:=Tryz.sizeOf70
 v51:=Tryz.zeroValue70
 t59:=Tryz.underlying281
 a59:=Tryz.isAgg281
 z59:=Tryz.sizeOf281
 v59:=Tryz.zeroValue281
 t146:=Tryz.underlying317
 a146:=Tryz.isAgg317
 z146:=Tryz.sizeOf317
 v146:=Tryz.zeroValue317
 g1:=by kernel_rfl }
open Go.RowKit Go.Lib in
theorem Tryz.strings_Cut (s sep:ByteArray) (m:Int) (w:World) (hs:s.size<4294967281) (hm:w.cell? ⟨2,0,none⟩=some (.int .i64 m)) :
 Calls Tryz.prog 255 #[.string s,.string sep] w fun e w'=>e=.returned (.tuple #[.string ⟨(Lib.cut s.data.toList sep.data.toList).1.toArray⟩,.string ⟨(Lib.cut s.data.toList sep.data.toList).2.1.toArray⟩,.bool (Lib.cut s.data.toList sep.data.toList).2.2])/\∃ n,w'=w.drewN n:=Any.strings_Cut Tryz.lays145 s sep m w hs hm
def Tryz.laysSlN37_f207_ren:Go.Shelf.Ren:=⟨fun|37=>207|n=>n,fun|22=>201|23=>2|3=>3|4=>4|9=>9|20=>20|0=>0|n=>n,fun|n=>n⟩
theorem Tryz.laysSlN37_f207:Go.Proofs.SlLaysN.n37 Tryz.prog Tryz.laysSlN37_f207_ren:= {
 mixed:=by kernel_rfl
 f37:=⟨Tryz.f207.name,by decide,Tryz.func207.trans (congrArg some (by kernel_rfl))⟩
 t0:=Tryz.underlying0
 a0:=Tryz.isAgg0
 z0:=Tryz.sizeOf0
 v0:=Tryz.zeroValue0
 t3:=Tryz.underlying3
 a3:=Tryz.isAgg3
 z3:=Tryz.sizeOf3
 v3:=Tryz.zeroValue3
 t4:=Tryz.underlying4
 a4:=Tryz.isAgg4
 z4:=Tryz.sizeOf4
 v4:=Tryz.zeroValue4
 t9:=Tryz.underlying9
 a9:=Tryz.isAgg9
 z9:=Tryz.sizeOf9
 v9:=Tryz.zeroValue9
 t20:=Tryz.underlying20
 a20:=Tryz.isAgg20
 z20:=Tryz.sizeOf20
 v20:=Tryz.zeroValue20
 t22:=Tryz.underlying201
 a22:=Tryz.isAgg201
 z22:=Tryz.sizeOf201
 v22:=Tryz.zeroValue201
 t23:=Tryz.underlying2
 a23:=Tryz.isAgg2
 z23:=Tryz.sizeOf2
 v23:=Tryz.zeroValue2 }
open Go.Lib in
theorem Tryz.slices_Max_int (b off n c:Nat) (zs:List Int) (w:World) (hn:0<n) (hz:n<=zs.length) (hbig:n<=9223372036854775807) (hc:∀ j,j<zs.length->w.cell? ⟨b,off+j,none⟩=some (.int .i64 (zs.getD j 0))) :
 Calls Tryz.prog 207 #[.slice (some ⟨b,off,none⟩) n c] w fun e w'=>e=.returned (.int .i64 (Lib.maxOf (zs.take n)))/\w'=w:=AnyG.slices_Max_int Tryz.laysSlN37_f207 b off n c zs w hn hz hbig hc
def Tryz.laysSlN39_f206_ren:Go.Shelf.Ren:=⟨fun|39=>206|n=>n,fun|22=>201|23=>2|3=>3|4=>4|9=>9|20=>20|0=>0|n=>n,fun|n=>n⟩
theorem Tryz.laysSlN39_f206:Go.Proofs.SlLaysN.n39 Tryz.prog Tryz.laysSlN39_f206_ren:= {
 mixed:=by kernel_rfl
 f39:=⟨Tryz.f206.name,by decide,Tryz.func206.trans (congrArg some (by kernel_rfl))⟩
 t0:=Tryz.underlying0
 a0:=Tryz.isAgg0
 z0:=Tryz.sizeOf0
 v0:=Tryz.zeroValue0
 t3:=Tryz.underlying3
 a3:=Tryz.isAgg3
 z3:=Tryz.sizeOf3
 v3:=Tryz.zeroValue3
 t4:=Tryz.underlying4
 a4:=Tryz.isAgg4
 z4:=Tryz.sizeOf4
 v4:=Tryz.zeroValue4
 t9:=Tryz.underlying9
 a9:=Tryz.isAgg9
 z9:=Tryz.sizeOf9
 v9:=Tryz.zeroValue9
 t20:=Tryz.underlying20
 a20:=Tryz.isAgg20
 z20:=Tryz.sizeOf20
 v20:=Tryz.zeroValue20
 t22:=Tryz.underlying201
 a22:=Tryz.isAgg201
 z22:=Tryz.sizeOf201
 v22:=Tryz.zeroValue201
 t23:=Tryz.underlying2
 a23:=Tryz.isAgg2
 z23:=Tryz.sizeOf2
 v23:=Tryz.zeroValue2 }
open Go.Lib in
theorem Tryz.slices_Min_int (b off n c:Nat) (zs:List Int) (w:World) (hn:0<n) (hz:n<=zs.length) (hbig:n<=9223372036854775807) (hc:∀ j,j<zs.length->w.cell? ⟨b,off+j,none⟩=some (.int .i64 (zs.getD j 0))) :
 Calls Tryz.prog 206 #[.slice (some ⟨b,off,none⟩) n c] w fun e w'=>e=.returned (.int .i64 (Lib.minOf (zs.take n)))/\w'=w:=AnyG.slices_Min_int Tryz.laysSlN39_f206 b off n c zs w hn hz hbig hc
end Go.Proofs
namespace Go.Proofs.YtppghgnhlgoagaaGreatDoor
open Go Go.RowKit
theorem dropWhile_all {p:UInt8->Bool} :∀ l:List UInt8,(∀ x∈l.dropWhile p,p x=true)->∀ x∈l,p x=true
 | [],_=>fun x hx=>by cases hx
 | a::t,h=>by
   cases ha:p a with
   | true =>
     have h2:∀ x∈t.dropWhile p,p x=true:=by
      intro x hx
      exact h x (by rw[List.dropWhile_cons_of_pos ha];exact hx)
     intro x hx
     rcases List.mem_cons.1 hx with rfl|hx
     ·exact ha
     ·exact dropWhile_all t h2 x hx
   | false =>
     have:=h a (by rw[List.dropWhile_cons_of_neg (by rw[ha];decide)];exact List.mem_cons_self)
     rw[ha] at this
     cases this
theorem trimS_nil {l cs:List UInt8} (h:Lib.trimS l cs=[]):∀ x∈l,cs.contains x=true:=by
 unfold Lib.trimS Lib.trimLeftS Lib.trimRightS at h
 have h1:=dropWhile_all (p:=fun b=>cs.contains b) (l.reverse.dropWhile fun b=>cs.contains b).reverse (by rw[h];intro x hx;cases hx)
 have h2:=dropWhile_all (p:=fun b=>cs.contains b) l.reverse (fun x hx=>h1 x (List.mem_reverse.2 hx))
 exact fun x hx=>h2 x (List.mem_reverse.2 hx)
def digitL:List UInt8:=[48,49,50,51,52,53,54,55,56,57]
theorem digit_of {x:UInt8} (h:digitL.contains x=true):48<=x.toNat/\x.toNat<=57:=by
 simp only[digitL,List.contains_cons,List.contains_nil,Bool.or_eq_true,beq_iff_eq,Bool.false_eq_true,or_false] at h
 rcases h with rfl|rfl|rfl|rfl|rfl|rfl|rfl|rfl|rfl|rfl<;>decide
theorem parse_ok:∀ (l:List UInt8) (acc:Nat),(∀ x∈l,48<=x.toNat/\x.toNat<=57)->(acc+1)*10 ^ l.length<=10 ^ 19->∃ u,Lib.parseUintM (2 ^ 64-1) acc l=.ok u/\u+1<=(acc+1)*10 ^ l.length
 | [],acc,_,_=>⟨acc,rfl,by simp⟩
 | c::r,acc,hd,hb=>by
   have hc:=hd c List.mem_cons_self
   rw[List.length_cons,Nat.pow_succ] at hb
   have h1:1<=10 ^ r.length:=Nat.pow_pos (by decide)
   have h2:(acc+1)*10<=10 ^ 19:=by
    refine Nat.le_trans ?_ hb
    rw[Nat.mul_comm (10 ^ r.length) 10,<-Nat.mul_assoc]
    exact Nat.le_mul_of_pos_right _ h1
   have h3:(acc*10+(c.toNat-48)+1)*10 ^ r.length<=(acc+1)*(10 ^ r.length*10):=by
    rw[Nat.mul_comm (10 ^ r.length) 10,<-Nat.mul_assoc]
    exact Nat.mul_le_mul_right _ (by omega)
   obtain⟨u,hu,hle⟩:=parse_ok r (acc*10+(c.toNat-48)) (fun x hx=>hd x (List.mem_cons_of_mem _ hx)) (Nat.le_trans h3 hb)
   refine⟨u,?_,?_⟩
   ·rw[Lib.parseUintM,if_pos hc,if_neg (by omega),if_neg (by omega)]
    exact hu
   ·rw[List.length_cons,Nat.pow_succ]
    exact Nat.le_trans hle h3
theorem parse_okB (l:List UInt8) (h0:l≠[]) (hd:∀ x∈l,48<=x.toNat/\x.toNat<=57) (hl:l.length<=19):∃ u,Lib.parseUintB 64 l=.ok u/\u<18446744073709551616:=by
 obtain⟨u,hu,hle⟩:=parse_ok l 0 hd (by
  rw[Nat.zero_add,Nat.one_mul]
  exact Nat.pow_le_pow_right (by decide) hl)
 refine⟨u,?_,?_⟩
 ·unfold Lib.parseUintB
  rw[if_neg h0]
  exact hu
 ·have:10 ^ l.length<=10 ^ 19:=Nat.pow_le_pow_right (by decide) hl
  omega
theorem copy_used (b:Nat) (w:World) (h0:w.cell? ⟨b,0,none⟩=some (.pointer (some ⟨b,0,none⟩))) :
  Calls Tryz.prog 295 #[.pointer (some ⟨b,0,none⟩)] w fun e w'=>e=.returned (.tuple #[])/\w'=w:=by
 obtain⟨j,hj,_⟩:=Option.map_eq_some_iff.1 Tryz.Builder_Extra_169.sizeBuilder
 go_enter Tryz.func295,Tryz.ntmps295
 go_wp2
 rw[Lib.run_neq_ptr_same w _ Tryz.underlying278 hj]
 go_wp2
 go_end0
 exact⟨rfl,rfl⟩
theorem copy_fresh (b:Nat) (w:World) (h0:w.cell? ⟨b,0,none⟩=some (.pointer none)) (hsh:w.shape? b=some (280,2)) (hfz:w.frozen? ⟨b,0,none⟩=false) :
  Calls Tryz.prog 295 #[.pointer (some ⟨b,0,none⟩)] w fun e w'=>e=.returned (.tuple #[])/\w'=w.setCell ⟨b,0,none⟩ (.pointer (some ⟨b,0,none⟩)):=by
 obtain⟨j,hj,hjs⟩:=Option.map_eq_some_iff.1 Tryz.Builder_Extra_169.sizeBuilder
 go_enter Tryz.func295,Tryz.ntmps295
 go_wp2
 rw[Lib.run_to_unsafe w ⟨b,0,none⟩ Tryz.underlying278 Tryz.underlying262 hj (by rw[hjs];decide) hsh (Nat.zero_lt_succ 1)]
 simp only[Result.andThen]
 rw[Oper.upon_value]
 go_wp2
 rw[run_callFunc_extern (Tryz.func309) (by kernel_rfl) (by kernel_rfl) (by kernel_rfl) (e:=Extern.AbiNoEscape.same) (by kernel_rfl)]
 rw[Lib.run_noEscape]
 simp only[Result.andThen]
 rw[Oper.upon_value]
 go_wp2
 rw[Lib.run_from_unsafe w ⟨b,0,none⟩ Tryz.underlying262 Tryz.underlying278 hj hsh Tryz.Builder_Extra_169.liesBuilder]
 simp only[Result.andThen]
 rw[Oper.upon_value]
 go_wp2
 go_end0
 exact⟨rfl,rfl⟩
theorem copy_check (B b:Nat) (bs:List Value) (w:World) (h:Lib.IsBuilder 280 5 B b bs w) :
  Calls Tryz.prog 295 #[.pointer (some ⟨b,0,none⟩)] w fun e w'=>e=.returned (.tuple #[])/\(Lib.BuilderAt 280 5 B b (.pointer (some ⟨b,0,none⟩)) bs w'/\Below B w w'):=by
 rcases h with h|h
 ·refine(copy_fresh b w h.cell0 h.shape h.frozen0).mono ?_
  rintro e w' ⟨rfl,rfl⟩
  exact⟨rfl,h.used _,(Below.refl B w).setCell (p:=⟨b,0,none⟩) h.1 _⟩
 ·refine(copy_used b w h.cell0).mono ?_
  rintro e w' ⟨rfl,rfl⟩
  exact⟨rfl,h,Below.refl B _⟩
theorem write_string (B b:Nat) (bs:List Value) (s:ByteArray) (w:World) (h:Lib.IsBuilder 280 5 B b bs w) (hlen:bs.length+s.size<=140737488355328) (hBw:B<=w.heap.size) :
  Calls Tryz.prog 257 #[.pointer (some ⟨b,0,none⟩),.string s] w fun e w'=>e=.returned (.tuple #[.int .i64 s.size,.nilIface])/\(Lib.BuilderAt 280 5 B b (.pointer (some ⟨b,0,none⟩)) (bs++Lib.strCells s) w'/\Below B w w'):=by
 obtain⟨i0,hi,hz0,hz1,hz2⟩:=info_parts Tryz.Builder_Extra_169.infoByte
 go_enter Tryz.func257,Tryz.ntmps257
 go_wp2_with(go_at_call 295;refine(copy_check B b bs _ h).mono ?_)
 rintro e w1 ⟨rfl,h1,hb1⟩
 obtain⟨hB,v,hbk,hown,hne⟩:=h1
 have c0:w1.cell? ⟨b,0,none⟩=some (.pointer (some ⟨b,0,none⟩)):=by rw[Lib.cell_of_heap hbk];rfl
 have c1:w1.cell? ⟨b,1,none⟩=some v:=by rw[Lib.cell_of_heap hbk];rfl
 go_wp2_with(at_builtin;refine Lib.wpList_append_own_string _ rfl _ _ 219 9 rfl B 5 i0 Tryz.underlying219 Tryz.underlying9 hi hz0 hz1 hz2 _ _ _ rfl hown s rfl ?c3 ?c4 ?c5 ?_)
 case c3=>unfold maxLen;omega
 case c4=>omega
 case c5=>have:=hb1.size;omega
 intro v' w2 hown' hgrow _
 have hlt:b<w1.heap.size:=by
  rcases Nat.lt_or_ge b w1.heap.size with h'|h'
  ·exact h'
  ·simp[Array.getElem?_eq_none h'] at hbk
 have hb2:w2.heap[b]? =some (.cells #[.pointer (some ⟨b,0,none⟩),v] 280 (0,0)):=by
  rw[hgrow.block b hlt (fun e=>hne e.symm)]
  exact hbk
 have d0:w2.cell? ⟨b,0,none⟩=some (.pointer (some ⟨b,0,none⟩)):=by rw[Lib.cell_of_heap hb2];rfl
 have d1:w2.cell? ⟨b,1,none⟩=some v:=by rw[Lib.cell_of_heap hb2];rfl
 have f1:w2.frozen? ⟨b,1,none⟩=false:=Lib.frozen_of_heap hb2 1
 obtain⟨ao,n',cap,rfl⟩:∃ ao n' cap,v'=.slice ao n' cap:=by
  rcases hown'.2 with ⟨hv,_⟩|⟨g,cap,cur,hv,_⟩
  ·exact⟨_,_,_,hv⟩
  ·exact⟨_,_,_,hv⟩
 go_wp2
 go_ret2
 refine⟨rfl,?_,?_⟩
 ·exact Lib.BuilderAt.put (T:=280) (e:=5) hB hb2 (bs':=bs++Lib.strCells s) (by simpa [Lib.strCells_length] using hown') (by decide)
 ·exact(hb1.grown hgrow (by have:=hb1.size;omega) (fun k hk=>(hown.lt k hk).1)).setCell (p:=⟨b,1,none⟩) hB _
end Go.Proofs.YtppghgnhlgoagaaGreatDoor
