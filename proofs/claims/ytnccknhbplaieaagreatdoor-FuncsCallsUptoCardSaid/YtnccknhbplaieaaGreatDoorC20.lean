/- Parts. -/
import Derived.Test.YtnccknhbplaieaaGreatDoorC01
import Derived.Shelf.Strings.SlTrimAscii
import Derived.Shelf.Strings.Builder1
import Derived.Shelf.Strings.Builder2
import Derived.Shelf.Strings.OnBuilder
import Derived.Shelf.Strings.Trim
import Derived.Shelf.Small.Utf8
import Derived.Shelf.Small.Bits
import Derived.Shelf.Small.Strs
import Derived.Shelf.Small.Wraps
import Derived.Shelf.Strings.BuilderF
import Derived.Shelf.Strings.BuilderK
import Derived.Shelf.Strings.Builder2Cap
import Derived.Shelf.LaysM
import Derived.Shelf.Strconv.Clone
import Derived.Shelf.Strconv.SyntaxError
import Derived.Shelf.LaysC
import Derived.Shelf.Strconv.ToError
import Derived.Shelf.Strconv.Lower
import Derived.Shelf.Strconv.ParseUint10
import Derived.Shelf.Strconv.ParseUint10Empty
import Derived.Shelf.Strconv.ParseUint10Any
import Derived.Shelf.Strconv.RangeError
import Derived.Shelf.Strconv.ToErrorRange
import Derived.Shelf.Strconv.ParseUintEmpty
import Derived.Shelf.Strconv.ParseUint10b64
import Derived.Shelf.Strconv.ParseUint10b32
import Derived.Shelf.Strconv.ParseUint10b16
import Derived.Shelf.Strconv.ParseUint10b8
import Derived.Shelf.Strconv.ParseUint10At
import Derived.Ground.MpProg
import Derived.Shelf.Pu.ParseUintPublic10
import Derived.Shelf.Pu.ErrVarParseUint
import Derived.Shelf.Strings.Search1
import Derived.Shelf.Strings.Search2
import Derived.Shelf.Strings.Search3
import Derived.Shelf.Strings.Cut
import Derived.Shelf.Strings.Shaped
import Derived.Shelf.Strings.Prefix
import Derived.Shelf.Strings.Repeat
import Derived.Shelf.Strings.BuilderCap
import Derived.Ground.SlgnProg
import Derived.Shelf.SlicesG.Turned
import Derived.Shelf.SlicesG.SearchI
import Derived.Ground.SlgmProg
import Derived.Shelf.SortM.Plain
import Derived.Shelf.SortM.SortNone
set_option linter.all false
set_option maxRecDepth 100000
set_option maxHeartbeats 4000000
namespace Go.Proofs
open Go.Shelf
def Tryz.lays170_ren:Go.Shelf.Ren:=⟨fun|170=>287|n=>n,fun|70=>244|3=>3|0=>0|72=>246|37=>98|5=>5|n=>n,fun|n=>n⟩
theorem Tryz.lays170:Go.Proofs.Lays.n170 Tryz.prog Tryz.lays170_ren:= {
 mixed:=by kernel_rfl
 f170:=Tryz.func287.trans (congrArg some (by kernel_rfl))
 t0:=Tryz.underlying0
 a0:=Tryz.isAgg0
 z0:=Tryz.sizeOf0
 v0:=Tryz.zeroValue0
 t3:=Tryz.underlying3
 a3:=Tryz.isAgg3
 z3:=Tryz.sizeOf3
 v3:=Tryz.zeroValue3
 t37:=Tryz.underlying98
 a37:=Tryz.isAgg98
 z37:=Tryz.sizeOf98
 v37:=Tryz.zeroValue98
 t70:=Tryz.underlying244
 a70:=Tryz.isAgg244
 z70:=Tryz.sizeOf244
 v70:=Tryz.zeroValue244
 t72:=Tryz.underlying246
 a72:=Tryz.isAgg246
 z72:=Tryz.sizeOf246
 v72:=Tryz.zeroValue246 }
open Go.RowKit in
theorem Tryz.Builder_Len (B b:Nat) (bs:List Value) (w:World) (h:Lib.IsBuilder 246 5 B b bs w) :
 Calls Tryz.prog 287 #[.pointer (some ⟨b,0,none⟩)] w fun e w'=>e=.returned (.int .i64 bs.length)/\w'=w:=Any.Builder_Len Tryz.lays170 B b bs w h
def Tryz.lays169_ren:Go.Shelf.Ren:=⟨fun|169=>289|n=>n,fun|70=>244|9=>9|0=>0|72=>246|37=>98|127=>281|3=>3|5=>5|n=>n,fun|n=>n⟩
theorem Tryz.lays169:Go.Proofs.Lays.n169 Tryz.prog Tryz.lays169_ren:= {
 mixed:=by kernel_rfl
 f169:=Tryz.func289.trans (congrArg some (by kernel_rfl))
 t0:=Tryz.underlying0
 a0:=Tryz.isAgg0
 z0:=Tryz.sizeOf0
 v0:=Tryz.zeroValue0
 t3:=Tryz.underlying3
 a3:=Tryz.isAgg3
 z3:=Tryz.sizeOf3
 v3:=Tryz.zeroValue3
 t9:=Tryz.underlying9
 a9:=Tryz.isAgg9
 z9:=Tryz.sizeOf9
 v9:=Tryz.zeroValue9
 t37:=Tryz.underlying98
 a37:=Tryz.isAgg98
 z37:=Tryz.sizeOf98
 v37:=Tryz.zeroValue98
 t70:=Tryz.underlying244
 a70:=Tryz.isAgg244
 z70:=Tryz.sizeOf244
 v70:=Tryz.zeroValue244
 t72:=Tryz.underlying246
 a72:=Tryz.isAgg246
 z72:=Tryz.sizeOf246
 v72:=Tryz.zeroValue246
 t127:=Tryz.underlying281
 a127:=Tryz.isAgg281
 z127:=Tryz.sizeOf281
 v127:=Tryz.zeroValue281 }
theorem Tryz.Builder_Extra_169:Builder.Extra Tryz.prog Tryz.lays169_ren:= {
 sizeBuilder:=by kernel_rfl
 liesBuilder:=by kernel_rfl
 t5:=Tryz.underlying5
 a5:=Tryz.isAgg5
 z5:=Tryz.sizeOf5
 v5:=Tryz.zeroValue5
 infoByte:=by kernel_rfl
 cellsByte:=by kernel_rfl
 sizeByte:=by kernel_rfl
 neB5:=by decide }
open Go.RowKit in
theorem Tryz.Builder_String_any (B b:Nat) (l:List UInt8) (w:World) (h:Lib.IsBuilder 246 5 B b (Lib.byteCells l) w) (hBw:B<=w.heap.size) :
 Calls Tryz.prog 289 #[.pointer (some ⟨b,0,none⟩)] w fun e w'=>e=.returned (.string ⟨l.toArray⟩)/\Below B w w':=Any.Builder_String_any Tryz.lays169 Tryz.Builder_Extra_169 B b l w h hBw
def Tryz.lays156_ren:Go.Shelf.Ren:=⟨fun|156=>284|165=>292|166=>288|169=>289|240=>325|241=>328|276=>348|277=>349|n=>n,fun|31=>93|9=>9|3=>3|4=>4|0=>0|20=>20|72=>246|76=>252|70=>244|37=>98|75=>251|127=>281|164=>228|5=>5|80=>254|n=>n,fun|n=>n⟩
theorem Tryz.lays156:Go.Proofs.Lays.n156 Tryz.prog Tryz.lays156_ren:= {
 mixed:=by kernel_rfl
 f156:=Tryz.func284.trans (congrArg some (by kernel_rfl))
 f165:=Tryz.func292.trans (congrArg some (by kernel_rfl))
 f166:=Tryz.func288.trans (congrArg some (by kernel_rfl))
 f169:=Tryz.func289.trans (congrArg some (by kernel_rfl))
 f240:=Tryz.func325.trans (congrArg some (by kernel_rfl))
 f241:=Tryz.func328.trans (congrArg some (by kernel_rfl))
 f276:=Tryz.func348.trans (congrArg some (by kernel_rfl))
 f277:=Tryz.func349.trans (congrArg some (by kernel_rfl))
 t0:=Tryz.underlying0
 a0:=Tryz.isAgg0
 z0:=Tryz.sizeOf0
 v0:=Tryz.zeroValue0
 t3:=Tryz.underlying3
 a3:=Tryz.isAgg3
 z3:=Tryz.sizeOf3
 v3:=Tryz.zeroValue3
 t4:=Tryz.underlying4
 a4:=Tryz.isAgg4
 z4:=Tryz.sizeOf4
 v4:=Tryz.zeroValue4
 t9:=Tryz.underlying9
 a9:=Tryz.isAgg9
 z9:=Tryz.sizeOf9
 v9:=Tryz.zeroValue9
 t20:=Tryz.underlying20
 a20:=Tryz.isAgg20
 z20:=Tryz.sizeOf20
 v20:=Tryz.zeroValue20
 t31:=Tryz.underlying93
 a31:=Tryz.isAgg93
 z31:=Tryz.sizeOf93
 v31:=Tryz.zeroValue93
 t37:=Tryz.underlying98
 a37:=Tryz.isAgg98
 z37:=Tryz.sizeOf98
 v37:=Tryz.zeroValue98
 t70:=Tryz.underlying244
 a70:=Tryz.isAgg244
 z70:=Tryz.sizeOf244
 v70:=Tryz.zeroValue244
 t72:=Tryz.underlying246
 a72:=Tryz.isAgg246
 z72:=Tryz.sizeOf246
 v72:=Tryz.zeroValue246
 t75:=Tryz.underlying251
 a75:=Tryz.isAgg251
 z75:=Tryz.sizeOf251
 v75:=Tryz.zeroValue251
 t76:=Tryz.underlying252
 a76:=Tryz.isAgg252
 z76:=Tryz.sizeOf252
 v76:=Tryz.zeroValue252
 t127:=Tryz.underlying281
 a127:=Tryz.isAgg281
 z127:=Tryz.sizeOf281
 v127:=Tryz.zeroValue281
 t164:=Tryz.underlying228
 a164:=Tryz.isAgg228
 z164:=Tryz.sizeOf228
 v164:=Tryz.zeroValue228 }
theorem Tryz.Builder_Extra_156:Builder.Extra Tryz.prog Tryz.lays156_ren:= {
 sizeBuilder:=by kernel_rfl
 liesBuilder:=by kernel_rfl
 t5:=Tryz.underlying5
 a5:=Tryz.isAgg5
 z5:=Tryz.sizeOf5
 v5:=Tryz.zeroValue5
 infoByte:=by kernel_rfl
 cellsByte:=by kernel_rfl
 sizeByte:=by kernel_rfl
 neB5:=by decide }
open Go.RowKit in
theorem Tryz.strings_Join_none (a:Option Addr) (c:Nat) (sep:ByteArray) (w:World) :
 Calls Tryz.prog 284 #[.slice a 0 c,.string sep] w fun e w'=>e=.returned (.string ⟨#[]⟩)/\w'=w:=Any.strings_Join_none Tryz.lays156 Tryz.Builder_Extra_156 a c sep w
open Go.RowKit in
theorem Tryz.strings_Join (bk o c:Nat) (xs:List ByteArray) (sep:ByteArray) (w:World) (hcells:∀ (j:Nat) x,xs[j]? =some x->w.cell? ⟨bk,o+j,none⟩=some (.string x)) (hbk:bk<w.heap.size) (hN:xs.length<=140737488355328) (hcap:xs.length<=c) (hlen:(Lib.join (xs.map (·.data.toList)) sep.data.toList).length<=140737488355328) :
 Calls Tryz.prog 284 #[.slice (some ⟨bk,o,none⟩) xs.length c,.string sep] w fun e w'=>e=.returned (.string ⟨(Lib.join (xs.map (·.data.toList)) sep.data.toList).toArray⟩)/\Below w.heap.size w w':=Any.strings_Join Tryz.lays156 Tryz.Builder_Extra_156 bk o c xs sep w hcells hbk hN hcap hlen
def Tryz.lays160_ren:Go.Shelf.Ren:=⟨fun|160=>351|232=>333|231=>376|227=>334|234=>335|233=>377|236=>336|235=>378|228=>358|271=>359|151=>360|197=>343|120=>389|152=>390|260=>373|137=>402|119=>403|224=>346|225=>345|217=>344|266=>374|n=>n,fun|9=>9|4=>4|3=>3|5=>5|117=>292|116=>291|0=>0|124=>295|21=>21|105=>299|46=>198|119=>337|139=>340|138=>339|n=>n,fun|3=>4|4=>5|n=>n⟩
theorem Tryz.lays160:Go.Proofs.Lays.n160 Tryz.prog Tryz.lays160_ren:= {
 mixed:=by kernel_rfl
 f119:=Tryz.func403.trans (congrArg some (by kernel_rfl))
 f120:=Tryz.func389.trans (congrArg some (by kernel_rfl))
 f137:=Tryz.func402.trans (congrArg some (by kernel_rfl))
 f151:=Tryz.func360.trans (congrArg some (by kernel_rfl))
 f152:=Tryz.func390.trans (congrArg some (by kernel_rfl))
 f160:=Tryz.func351.trans (congrArg some (by kernel_rfl))
 f197:=Tryz.func343.trans (congrArg some (by kernel_rfl))
 f217:=Tryz.func344.trans (congrArg some (by kernel_rfl))
 f224:=Tryz.func346.trans (congrArg some (by kernel_rfl))
 f225:=Tryz.func345.trans (congrArg some (by kernel_rfl))
 f227:=Tryz.func334.trans (congrArg some (by kernel_rfl))
 f228:=Tryz.func358.trans (congrArg some (by kernel_rfl))
 f231:=Tryz.func376.trans (congrArg some (by kernel_rfl))
 f232:=Tryz.func333.trans (congrArg some (by kernel_rfl))
 f233:=Tryz.func377.trans (congrArg some (by kernel_rfl))
 f234:=Tryz.func335.trans (congrArg some (by kernel_rfl))
 f235:=Tryz.func378.trans (congrArg some (by kernel_rfl))
 f236:=Tryz.func336.trans (congrArg some (by kernel_rfl))
 f260:=Tryz.func373.trans (congrArg some (by kernel_rfl))
 f266:=Tryz.func374.trans (congrArg some (by kernel_rfl))
 f271:=Tryz.func359.trans (congrArg some (by kernel_rfl))
 t0:=Tryz.underlying0
 a0:=Tryz.isAgg0
 z0:=Tryz.sizeOf0
 v0:=Tryz.zeroValue0
 t3:=Tryz.underlying3
 a3:=Tryz.isAgg3
 z3:=Tryz.sizeOf3
 v3:=Tryz.zeroValue3
 t4:=Tryz.underlying4
 a4:=Tryz.isAgg4
 z4:=Tryz.sizeOf4
 v4:=Tryz.zeroValue4
 t5:=Tryz.underlying5
 a5:=Tryz.isAgg5
 z5:=Tryz.sizeOf5
 v5:=Tryz.zeroValue5
 t9:=Tryz.underlying9
 a9:=Tryz.isAgg9
 z9:=Tryz.sizeOf9
 v9:=Tryz.zeroValue9
 t21:=Tryz.underlying21
 a21:=Tryz.isAgg21
 z21:=Tryz.sizeOf21
 v21:=Tryz.zeroValue21
 t46:=Tryz.underlying198
 a46:=Tryz.isAgg198
 z46:=Tryz.sizeOf198
 v46:=Tryz.zeroValue198
 t105:=Tryz.underlying299
 a105:=Tryz.isAgg299
 z105:=Tryz.sizeOf299
 v105:=Tryz.zeroValue299
 t116:=Tryz.underlying291
 a116:=Tryz.isAgg291
 z116:=Tryz.sizeOf291
 t117:=Tryz.underlying292
 a117:=Tryz.isAgg292
 z117:=Tryz.sizeOf292
 v117:=Tryz.zeroValue292
 t119:=Tryz.underlying337
 a119:=Tryz.isAgg337
 z119:=Tryz.sizeOf337
 t124:=Tryz.underlying295
 a124:=Tryz.isAgg295
 z124:=Tryz.sizeOf295
 v124:=Tryz.zeroValue295
 t138:=Tryz.underlying339
 a138:=Tryz.isAgg339
 z138:=Tryz.sizeOf339
 v138:=Tryz.zeroValue339
 t139:=Tryz.underlying340
 a139:=Tryz.isAgg340
 z139:=Tryz.sizeOf340
 v139:=Tryz.zeroValue340
 g3:=by kernel_rfl
 g4:=by kernel_rfl }
def Tryz.lays103_ren:Go.Shelf.Ren:=⟨fun|103=>329|210=>350|206=>327|n=>n,fun|9=>9|4=>4|24=>284|3=>3|n=>n,fun|n=>n⟩
theorem Tryz.lays103:Go.Proofs.Lays.n103 Tryz.prog Tryz.lays103_ren:= {
 mixed:=by kernel_rfl
 f103:=Tryz.func329.trans (congrArg some (by kernel_rfl))
 f206:=Tryz.func327.trans (congrArg some (by kernel_rfl))
 f210:=Tryz.func350.trans (congrArg some (by kernel_rfl))
 t3:=Tryz.underlying3
 a3:=Tryz.isAgg3
 z3:=Tryz.sizeOf3
 v3:=Tryz.zeroValue3
 t4:=Tryz.underlying4
 a4:=Tryz.isAgg4
 z4:=Tryz.sizeOf4
 v4:=Tryz.zeroValue4
 t9:=Tryz.underlying9
 a9:=Tryz.isAgg9
 z9:=Tryz.sizeOf9
 v9:=Tryz.zeroValue9
 t24:=Tryz.underlying284
 a24:=Tryz.isAgg284
 z24:=Tryz.sizeOf284
 v24:=Tryz.zeroValue284 }
open Go.RowKit in
theorem Tryz.strings_CutPrefix (s p:ByteArray) (w:World) :
 Calls Tryz.prog 329 #[.string s,.string p] w fun e w'=>e=.returned (.tuple #[.string ⟨(Lib.trimPrefix s.data.toList p.data.toList).toArray⟩,.bool (Lib.hasPrefix s.data.toList p.data.toList)])/\w'=w:=Any.strings_CutPrefix Tryz.lays103 s p w
def Tryz.laysPu14_ren:Go.Shelf.Ren:=⟨fun|14=>331|16=>352|17=>353|19=>379|20=>380|21=>381|22=>382|23=>383|24=>384|25=>397|27=>399|26=>398|28=>405|29=>406|30=>354|31=>355|32=>356|33=>357|35=>361|34=>385|36=>386|37=>387|38=>388|39=>400|40=>401|n=>n,fun|9=>9|3=>3|22=>133|24=>251|25=>287|4=>4|34=>323|5=>5|36=>198|37=>98|0=>0|39=>325|21=>21|44=>342|47=>281|50=>349|48=>347|2=>2|52=>307|55=>309|59=>328|60=>35|20=>20|61=>329|65=>350|66=>351|67=>254|n=>n,fun|0=>6|1=>7|2=>3|3=>8|4=>9|n=>n⟩
theorem Tryz.laysPu14:Go.Proofs.LaysPu.n14 Tryz.prog Tryz.laysPu14_ren:= {
 mixed:=by kernel_rfl
 f14:=Tryz.func331.trans (congrArg some (by kernel_rfl))
 f16:=Tryz.func352.trans (congrArg some (by kernel_rfl))
 f17:=Tryz.func353.trans (congrArg some (by kernel_rfl))
 f19:=Tryz.func379.trans (congrArg some (by kernel_rfl))
 f20:=Tryz.func380.trans (congrArg some (by kernel_rfl))
 f21:=Tryz.func381.trans (congrArg some (by kernel_rfl))
 f22:=Tryz.func382.trans (congrArg some (by kernel_rfl))
 f23:=Tryz.func383.trans (congrArg some (by kernel_rfl))
 f24:=Tryz.func384.trans (congrArg some (by kernel_rfl))
 f25:=Tryz.func397.trans (congrArg some (by kernel_rfl))
 f26:=Tryz.func398.trans (congrArg some (by kernel_rfl))
 f27:=Tryz.func399.trans (congrArg some (by kernel_rfl))
 f28:=Tryz.func405.trans (congrArg some (by kernel_rfl))
 f29:=Tryz.func406.trans (congrArg some (by kernel_rfl))
 f30:=Tryz.func354.trans (congrArg some (by kernel_rfl))
 f31:=Tryz.func355.trans (congrArg some (by kernel_rfl))
 f32:=Tryz.func356.trans (congrArg some (by kernel_rfl))
 f33:=Tryz.func357.trans (congrArg some (by kernel_rfl))
 f34:=Tryz.func385.trans (congrArg some (by kernel_rfl))
 f35:=Tryz.func361.trans (congrArg some (by kernel_rfl))
 f36:=Tryz.func386.trans (congrArg some (by kernel_rfl))
 f37:=Tryz.func387.trans (congrArg some (by kernel_rfl))
 f38:=Tryz.func388.trans (congrArg some (by kernel_rfl))
 f39:=Tryz.func400.trans (congrArg some (by kernel_rfl))
 f40:=Tryz.func401.trans (congrArg some (by kernel_rfl))
 t0:=Tryz.underlying0
 a0:=Tryz.isAgg0
 z0:=Tryz.sizeOf0
 v0:=Tryz.zeroValue0
 i0:=by kernel_rfl
 t2:=Tryz.underlying2
 a2:=Tryz.isAgg2
 z2:=Tryz.sizeOf2
 v2:=Tryz.zeroValue2
 i2:=by kernel_rfl
 t3:=Tryz.underlying3
 a3:=Tryz.isAgg3
 z3:=Tryz.sizeOf3
 v3:=Tryz.zeroValue3
 i3:=by kernel_rfl
 t4:=Tryz.underlying4
 a4:=Tryz.isAgg4
 z4:=Tryz.sizeOf4
 v4:=Tryz.zeroValue4
 i4:=by kernel_rfl
 t5:=Tryz.underlying5
 a5:=Tryz.isAgg5
 z5:=Tryz.sizeOf5
 v5:=Tryz.zeroValue5
 i5:=by kernel_rfl
 t9:=Tryz.underlying9
 a9:=Tryz.isAgg9
 z9:=Tryz.sizeOf9
 v9:=Tryz.zeroValue9
 i9:=by kernel_rfl
 t20:=Tryz.underlying20
 a20:=Tryz.isAgg20
 z20:=Tryz.sizeOf20
 v20:=Tryz.zeroValue20
 i20:=by kernel_rfl
 t21:=Tryz.underlying21
 a21:=Tryz.isAgg21
 z21:=Tryz.sizeOf21
 v21:=Tryz.zeroValue21
 i21:=by kernel_rfl
 t22:=Tryz.underlying133
 a22:=Tryz.isAgg133
 z22:=Tryz.sizeOf133
 v22:=Tryz.zeroValue133
 i22:=by kernel_rfl
 t24:=Tryz.underlying251
 a24:=Tryz.isAgg251
 z24:=Tryz.sizeOf251
 v24:=Tryz.zeroValue251
 i24:=by kernel_rfl
 t25:=Tryz.underlying287
 a25:=Tryz.isAgg287
 z25:=Tryz.sizeOf287
 v25:=Tryz.zeroValue287
 i25:=by kernel_rfl
 t34:=Tryz.underlying323
 a34:=Tryz.isAgg323
 z34:=Tryz.sizeOf323
 v34:=Tryz.zeroValue323
 i34:=by kernel_rfl
 c34:=by kernel_rfl
 t36:=Tryz.underlying198
 a36:=Tryz.isAgg198
 z36:=Tryz.sizeOf198
 v36:=Tryz.zeroValue198
 i36:=by kernel_rfl
 t37:=Tryz.underlying98
 a37:=Tryz.isAgg98
 z37:=Tryz.sizeOf98
 v37:=Tryz.zeroValue98
 i37:=by kernel_rfl
 t39:=Tryz.underlying325
 a39:=Tryz.isAgg325
 z39:=Tryz.sizeOf325
 v39:=Tryz.zeroValue325
 i39:=by kernel_rfl
 t44:=Tryz.underlying342
 a44:=Tryz.isAgg342
 z44:=Tryz.sizeOf342
 v44:=Tryz.zeroValue342
 i44:=by kernel_rfl
 t47:=Tryz.underlying281
 a47:=Tryz.isAgg281
 z47:=Tryz.sizeOf281
 v47:=Tryz.zeroValue281
 i47:=by kernel_rfl
 t48:=Tryz.underlying347
 a48:=Tryz.isAgg347
 z48:=Tryz.sizeOf347
 v48:=Tryz.zeroValue347
 i48:=by kernel_rfl
 t50:=Tryz.underlying349
 a50:=Tryz.isAgg349
 z50:=Tryz.sizeOf349
 v50:=Tryz.zeroValue349
 i50:=by kernel_rfl
 t52:=Tryz.underlying307
 a52:=Tryz.isAgg307
 z52:=Tryz.sizeOf307
 v52:=Tryz.zeroValue307
 i52:=by kernel_rfl
 t55:=Tryz.underlying309
 a55:=Tryz.isAgg309
 z55:=Tryz.sizeOf309
 v55:=Tryz.zeroValue309
 i55:=by kernel_rfl
 t59:=Tryz.underlying328
 a59:=Tryz.isAgg328
 z59:=Tryz.sizeOf328
 v59:=Tryz.zeroValue328
 i59:=by kernel_rfl
 t60:=Tryz.underlying35
 a60:=Tryz.isAgg35
 z60:=Tryz.sizeOf35
 v60:=Tryz.zeroValue35
 i60:=by kernel_rfl
 t61:=Tryz.underlying329
 a61:=Tryz.isAgg329
 z61:=Tryz.sizeOf329
 t65:=Tryz.underlying350
 a65:=Tryz.isAgg350
 z65:=Tryz.sizeOf350
 v65:=Tryz.zeroValue350
 i65:=by kernel_rfl
 t66:=Tryz.underlying351
 a66:=Tryz.isAgg351
 z66:=Tryz.sizeOf351
 v66:=Tryz.zeroValue351
 i66:=by kernel_rfl
 t67:=Tryz.underlying254
 a67:=Tryz.isAgg254
 z67:=Tryz.sizeOf254
 v67:=Tryz.zeroValue254
 i67:=by kernel_rfl
 g0:=by kernel_rfl
 m0:=by kernel_rfl
 g1:=by kernel_rfl
 m1:=by kernel_rfl
 g2:=by kernel_rfl
 m2:=by kernel_rfl
 g3:=by kernel_rfl
 m3:=by kernel_rfl
 g4:=by kernel_rfl
 m4:=by kernel_rfl }
open Go.RowKit in
theorem Tryz.strconv_ParseUint_10_at64_ok (s:ByteArray) (hmax:s.size<=9223372036854775806) (u:Nat) (h:Lib.parseUintB 64 s.data.toList=.ok u) (w:World) :
 Calls Tryz.prog 331 #[.string s,.int .i64 10,.int .i64 64] w fun e w'=>e=.returned (.tuple #[.int .u64 u,.nilIface])/\(w'=w∨w'=Lib.bytesWorld w 5 s):=Any.strconv_ParseUint_10_at64_ok Tryz.laysPu14 s hmax u h w
def Tryz.lays143_ren:Go.Shelf.Ren:=⟨fun|143=>285|219=>323|217=>344|225=>345|224=>346|267=>347|266=>374|314=>375|n=>n,fun|9=>9|3=>3|4=>4|5=>5|46=>198|146=>282|51=>35|n=>n,fun|1=>2|n=>n⟩
theorem Tryz.lays143:Go.Proofs.Lays.n143 Tryz.prog Tryz.lays143_ren:= {
 mixed:=by kernel_rfl
 f143:=Tryz.func285.trans (congrArg some (by kernel_rfl))
 f217:=Tryz.func344.trans (congrArg some (by kernel_rfl))
 f219:=Tryz.func323.trans (congrArg some (by kernel_rfl))
 f224:=Tryz.func346.trans (congrArg some (by kernel_rfl))
 f225:=Tryz.func345.trans (congrArg some (by kernel_rfl))
 f266:=Tryz.func374.trans (congrArg some (by kernel_rfl))
 f267:=Tryz.func347.trans (congrArg some (by kernel_rfl))
 f314:=Tryz.func375.trans (congrArg some (by kernel_rfl))
 t3:=Tryz.underlying3
 a3:=Tryz.isAgg3
 z3:=Tryz.sizeOf3
 v3:=Tryz.zeroValue3
 t4:=Tryz.underlying4
 a4:=Tryz.isAgg4
 z4:=Tryz.sizeOf4
 v4:=Tryz.zeroValue4
 t5:=Tryz.underlying5
 a5:=Tryz.isAgg5
 z5:=Tryz.sizeOf5
 v5:=Tryz.zeroValue5
 t9:=Tryz.underlying9
 a9:=Tryz.isAgg9
 z9:=Tryz.sizeOf9
 v9:=Tryz.zeroValue9
 t46:=Tryz.underlying198
 a46:=Tryz.isAgg198
 z46:=Tryz.sizeOf198
 v46:=Tryz.zeroValue198
 t51:=Tryz.underlying35
 a51:=Tryz.isAgg35
 z51:=Tryz.sizeOf35
 v51:=Tryz.zeroValue35
 t146:=Tryz.underlying282
 a146:=Tryz.isAgg282
 z146:=Tryz.sizeOf282
 v146:=Tryz.zeroValue282
 g1:=by kernel_rfl }
open Go.RowKit Go.Lib in
theorem Tryz.strings_Index (s sub:ByteArray) (m:Int) (w:World) (hs:s.size<4294967281) (hm:w.cell? ⟨2,0,none⟩=some (.int .i64 m)) :
 Calls Tryz.prog 285 #[.string s,.string sub] w fun e w'=>e=.returned (.int .i64 (Lib.index s.data.toList sub.data.toList))/\w'=w:=Any.strings_Index Tryz.lays143 s sub m w hs hm
def Tryz.lays145_ren:Go.Shelf.Ren:=⟨fun|145=>286|220=>324|219=>323|217=>344|225=>345|224=>346|267=>347|266=>374|314=>375|n=>n,fun|9=>9|4=>4|59=>247|3=>3|5=>5|46=>198|146=>282|51=>35|n=>n,fun|1=>2|n=>n⟩
theorem Tryz.lays145:Go.Proofs.Lays.n145 Tryz.prog Tryz.lays145_ren:= {
 mixed:=by kernel_rfl
 f145:=Tryz.func286.trans (congrArg some (by kernel_rfl))
 f217:=Tryz.func344.trans (congrArg some (by kernel_rfl))
 f219:=Tryz.func323.trans (congrArg some (by kernel_rfl))
 f220:=Tryz.func324.trans (congrArg some (by kernel_rfl))
 f224:=Tryz.func346.trans (congrArg some (by kernel_rfl))
 f225:=Tryz.func345.trans (congrArg some (by kernel_rfl))
 f266:=Tryz.func374.trans (congrArg some (by kernel_rfl))
 f267:=Tryz.func347.trans (congrArg some (by kernel_rfl))
 f314:=Tryz.func375.trans (congrArg some (by kernel_rfl))
 t3:=Tryz.underlying3
 a3:=Tryz.isAgg3
 z3:=Tryz.sizeOf3
 v3:=Tryz.zeroValue3
 t4:=Tryz.underlying4
 a4:=Tryz.isAgg4
 z4:=Tryz.sizeOf4
 v4:=Tryz.zeroValue4
 t5:=Tryz.underlying5
 a5:=Tryz.isAgg5
 z5:=Tryz.sizeOf5
 v5:=Tryz.zeroValue5
 t9:=Tryz.underlying9
 a9:=Tryz.isAgg9
 z9:=Tryz.sizeOf9
 v9:=Tryz.zeroValue9
 t46:=Tryz.underlying198
 a46:=Tryz.isAgg198
 z46:=Tryz.sizeOf198
 v46:=Tryz.zeroValue198
 t51:=Tryz.underlying35
 a51:=Tryz.isAgg35
 z51:=Tryz.sizeOf35
 v51:=Tryz.zeroValue35
 t59:=Tryz.underlying247
 a59:=Tryz.isAgg247
 z59:=Tryz.sizeOf247
 v59:=Tryz.zeroValue247
 t146:=Tryz.underlying282
 a146:=Tryz.isAgg282
 z146:=Tryz.sizeOf282
 v146:=Tryz.zeroValue282
 g1:=by kernel_rfl }
open Go.RowKit Go.Lib in
theorem Tryz.strings_Cut (s sep:ByteArray) (m:Int) (w:World) (hs:s.size<4294967281) (hm:w.cell? ⟨2,0,none⟩=some (.int .i64 m)) :
 Calls Tryz.prog 286 #[.string s,.string sep] w fun e w'=>e=.returned (.tuple #[.string ⟨(Lib.cut s.data.toList sep.data.toList).1.toArray⟩,.string ⟨(Lib.cut s.data.toList sep.data.toList).2.1.toArray⟩,.bool (Lib.cut s.data.toList sep.data.toList).2.2])/\∃ n,w'=w.drewN n:=Any.strings_Cut Tryz.lays145 s sep m w hs hm
def Tryz.laysSlN37_f236_ren:Go.Shelf.Ren:=⟨fun|37=>236|n=>n,fun|22=>84|23=>2|3=>3|4=>4|9=>9|20=>20|0=>0|n=>n,fun|n=>n⟩
theorem Tryz.laysSlN37_f236:Go.Proofs.SlLaysN.n37 Tryz.prog Tryz.laysSlN37_f236_ren:= {
 mixed:=by kernel_rfl
 f37:=⟨Tryz.f236.name,by decide,Tryz.func236.trans (congrArg some (by kernel_rfl))⟩
 t0:=Tryz.underlying0
 a0:=Tryz.isAgg0
 z0:=Tryz.sizeOf0
 v0:=Tryz.zeroValue0
 t3:=Tryz.underlying3
 a3:=Tryz.isAgg3
 z3:=Tryz.sizeOf3
 v3:=Tryz.zeroValue3
 t4:=Tryz.underlying4
 a4:=Tryz.isAgg4
 z4:=Tryz.sizeOf4
 v4:=Tryz.zeroValue4
 t9:=Tryz.underlying9
 a9:=Tryz.isAgg9
 z9:=Tryz.sizeOf9
 v9:=Tryz.zeroValue9
 t20:=Tryz.underlying20
 a20:=Tryz.isAgg20
 z20:=Tryz.sizeOf20
 v20:=Tryz.zeroValue20
 t22:=Tryz.underlying84
 a22:=Tryz.isAgg84
 z22:=Tryz.sizeOf84
 v22:=Tryz.zeroValue84
 t23:=Tryz.underlying2
 a23:=Tryz.isAgg2
 z23:=Tryz.sizeOf2
 v23:=Tryz.zeroValue2 }
open Go.Lib in
theorem Tryz.slices_Max_int (b off n c:Nat) (zs:List Int) (w:World) (hn:0<n) (hz:n<=zs.length) (hbig:n<=9223372036854775807) (hc:∀ j,j<zs.length->w.cell? ⟨b,off+j,none⟩=some (.int .i64 (zs.getD j 0))) :
 Calls Tryz.prog 236 #[.slice (some ⟨b,off,none⟩) n c] w fun e w'=>e=.returned (.int .i64 (Lib.maxOf (zs.take n)))/\w'=w:=AnyG.slices_Max_int Tryz.laysSlN37_f236 b off n c zs w hn hz hbig hc
def Tryz.laysSlN39_f235_ren:Go.Shelf.Ren:=⟨fun|39=>235|n=>n,fun|22=>84|23=>2|3=>3|4=>4|9=>9|20=>20|0=>0|n=>n,fun|n=>n⟩
theorem Tryz.laysSlN39_f235:Go.Proofs.SlLaysN.n39 Tryz.prog Tryz.laysSlN39_f235_ren:= {
 mixed:=by kernel_rfl
 f39:=⟨Tryz.f235.name,by decide,Tryz.func235.trans (congrArg some (by kernel_rfl))⟩
 t0:=Tryz.underlying0
 a0:=Tryz.isAgg0
 z0:=Tryz.sizeOf0
 v0:=Tryz.zeroValue0
 t3:=Tryz.underlying3
 a3:=Tryz.isAgg3
 z3:=Tryz.sizeOf3
 v3:=Tryz.zeroValue3
 t4:=Tryz.underlying4
 a4:=Tryz.isAgg4
 z4:=Tryz.sizeOf4
 v4:=Tryz.zeroValue4
 t9:=Tryz.underlying9
 a9:=Tryz.isAgg9
 z9:=Tryz.sizeOf9
 v9:=Tryz.zeroValue9
 t20:=Tryz.underlying20
 a20:=Tryz.isAgg20
 z20:=Tryz.sizeOf20
 v20:=Tryz.zeroValue20
 t22:=Tryz.underlying84
 a22:=Tryz.isAgg84
 z22:=Tryz.sizeOf84
 v22:=Tryz.zeroValue84
 t23:=Tryz.underlying2
 a23:=Tryz.isAgg2
 z23:=Tryz.sizeOf2
 v23:=Tryz.zeroValue2 }
open Go.Lib in
theorem Tryz.slices_Min_int (b off n c:Nat) (zs:List Int) (w:World) (hn:0<n) (hz:n<=zs.length) (hbig:n<=9223372036854775807) (hc:∀ j,j<zs.length->w.cell? ⟨b,off+j,none⟩=some (.int .i64 (zs.getD j 0))) :
 Calls Tryz.prog 235 #[.slice (some ⟨b,off,none⟩) n c] w fun e w'=>e=.returned (.int .i64 (Lib.minOf (zs.take n)))/\w'=w:=AnyG.slices_Min_int Tryz.laysSlN39_f235 b off n c zs w hn hz hbig hc
end Go.Proofs
namespace Go.Proofs.YtnccknhbplaieaaGreatDoor
open Go Go.RowKit Go.Proofs.Tryz
def MaxL (w:World):Prop:=∃ m,w.cell? ⟨2,0,none⟩=some (.int .i64 m)
theorem MaxL.below {w w':World} (h:MaxL w) (hb:Below w.heap.size w w'):MaxL w':=by
 obtain⟨m,hm⟩:=h;exact⟨m,(hb.cell (p:=⟨2,0,none⟩) (World.block_lt_of_cell? w _ hm)).trans hm⟩
theorem cut_more (l t:List UInt8) (w:World) (hm:MaxL w) (hl:l.length<4294967281) :
  Calls prog 286 #[.string ⟨l.toArray⟩,.string ⟨t.toArray⟩] w fun e w'=>e=.returned (.tuple #[.string ⟨(Lib.cut l t).1.toArray⟩,.string ⟨(Lib.cut l t).2.1.toArray⟩,.bool (Lib.cut l t).2.2])/\∃ n,w'=w.drewN n:=by
 obtain⟨m,hm⟩:=hm;exact Tryz.strings_Cut ⟨l.toArray⟩ ⟨t.toArray⟩ m w hl hm
theorem cut_fst_le (l t:List UInt8):(Lib.cut l t).1.length<=l.length:=by
 unfold Lib.cut;split
 ·simp;omega
 ·simp
theorem mk_data (s:ByteArray):(⟨s.data.toList.toArray⟩:ByteArray)=s:=by cases s;simp
theorem index_any (s t:ByteArray) (w:World) (hm:MaxL w) (hl:s.size<4294967281) :
  Calls prog 285 #[.string s,.string t] w fun e w'=>e=.returned (.int .i64 (Lib.index s.data.toList t.data.toList))/\w'=w:=by
 obtain⟨m,hm⟩:=hm;exact Tryz.strings_Index s t m w hl hm
theorem extract_take (l:List UInt8) (i:Nat):(⟨l.toArray⟩:ByteArray).extract 0 i=⟨(l.take i).toArray⟩:=by
 apply ByteArray.ext;simp[ByteArray.data_extract]
theorem extract_drop (l:List UInt8) (i:Nat):(⟨l.toArray⟩:ByteArray).extract i l.length=⟨(l.drop i).toArray⟩:=by
 apply ByteArray.ext;simp only[ByteArray.data_extract,List.extract_toArray,List.extract_eq_take_drop];rw[List.take_of_length_le (by rw[List.length_drop];omega)]
theorem addr_ne {a b:Nat} (h:a≠b):(⟨a,0,none⟩:Addr)≠⟨b,0,none⟩:=fun e=>h (by injection e)
theorem copy_used (b:Nat) (w:World) (h0:w.cell? ⟨b,0,none⟩=some (.pointer (some ⟨b,0,none⟩))) :
  Calls prog 325 #[.pointer (some ⟨b,0,none⟩)] w fun e w'=>e=.returned (.tuple #[])/\w'=w:=by
 obtain⟨j,hj,_⟩:=Option.map_eq_some_iff.1 Tryz.Builder_Extra_169.sizeBuilder;go_enter func325,ntmps325;go_wp2;rw[Lib.run_neq_ptr_same w _ underlying244 hj];go_wp2
 go_end0
 exact⟨rfl,rfl⟩
theorem copy_fresh (b:Nat) (w:World) (h0:w.cell? ⟨b,0,none⟩=some (.pointer none)) (hsh:w.shape? b=some (246,2)) (hfz:w.frozen? ⟨b,0,none⟩=false) :
  Calls prog 325 #[.pointer (some ⟨b,0,none⟩)] w fun e w'=>e=.returned (.tuple #[])/\w'=w.setCell ⟨b,0,none⟩ (.pointer (some ⟨b,0,none⟩)):=by
 obtain⟨j,hj,ha⟩:=Option.map_eq_some_iff.1 Tryz.Builder_Extra_169.sizeBuilder;go_enter func325,ntmps325;go_wp2;rw[Lib.run_to_unsafe w ⟨b,0,none⟩ underlying244 underlying228 hj (by rw[ha];decide) hsh (Nat.zero_lt_succ 1)];simp only[Result.andThen];rw[Oper.upon_value];go_wp2;rw[run_callFunc_extern (func348) (by kernel_rfl) (by kernel_rfl) (by kernel_rfl) (e:=Extern.AbiNoEscape.same) (by kernel_rfl)];rw[Lib.run_noEscape];simp only[Result.andThen];rw[Oper.upon_value];go_wp2;rw[Lib.run_from_unsafe w ⟨b,0,none⟩ underlying228 underlying244 hj hsh Tryz.Builder_Extra_169.liesBuilder];simp only[Result.andThen];rw[Oper.upon_value];go_wp2
 go_end0
 exact⟨rfl,rfl⟩
theorem copy_check (B b:Nat) (bs:List Value) (w:World) (h:Lib.IsBuilder 246 5 B b bs w) :
  Calls prog 325 #[.pointer (some ⟨b,0,none⟩)] w fun e w'=>e=.returned (.tuple #[])/\(Lib.BuilderAt 246 5 B b (.pointer (some ⟨b,0,none⟩)) bs w'/\Below B w w'):=by
 rcases h with h|h
 ·refine(copy_fresh b w h.cell0 h.shape h.frozen0).mono ?_;rintro e w' ⟨rfl,rfl⟩;exact⟨rfl,h.used _,(Below.refl B w).setCell (p:=⟨b,0,none⟩) h.1 _⟩
 ·refine(copy_used b w h.cell0).mono ?_;rintro e w' ⟨rfl,rfl⟩;exact⟨rfl,h,Below.refl B _⟩
theorem write_string (B b:Nat) (bs:List Value) (s:ByteArray) (w:World) (h:Lib.IsBuilder 246 5 B b bs w) (hlen:bs.length+s.size<=140737488355328) (hBw:B<=w.heap.size) :
  Calls prog 288 #[.pointer (some ⟨b,0,none⟩),.string s] w fun e w'=>e=.returned (.tuple #[.int .i64 s.size,.nilIface])/\(Lib.BuilderAt 246 5 B b (.pointer (some ⟨b,0,none⟩)) (bs++Lib.strCells s) w'/\Below B w w'):=by
 obtain⟨i0,hi,hj,hl,hm⟩:=info_parts Tryz.Builder_Extra_169.infoByte;go_enter func288,ntmps288;go_wp2_with(go_at_call 325;refine(copy_check B b bs _ h).mono ?_)
 rintro e w1 ⟨rfl,h1,hf⟩;obtain⟨hB,v,he,hc,hh⟩:=h1;have c0:w1.cell? ⟨b,0,none⟩=some (.pointer (some ⟨b,0,none⟩)):=by rw[Lib.cell_of_heap he];rfl
 have c1:w1.cell? ⟨b,1,none⟩=some v:=by rw[Lib.cell_of_heap he];rfl
 go_wp2_with(at_builtin;refine Lib.wpList_append_own_string _ rfl _ _ 98 9 rfl B 5 i0 underlying98 underlying9 hi hj hl hm _ _ _ rfl hc s rfl ?c3 ?c4 ?c5 ?_)
 case c3=>unfold maxLen;omega
 case c4=>omega
 case c5=>have:=hf.size;omega
 intro v' w2 hb ha _;have hg:b<w1.heap.size:=by
  rcases Nat.lt_or_ge b w1.heap.size with h'|h'
  ·exact h'
  ·simp[Array.getElem?_eq_none h'] at he
 have hd:w2.heap[b]? =some (.cells #[.pointer (some ⟨b,0,none⟩),v] 246 (0,0)):=by
  rw[ha.block b hg (fun e=>hh e.symm)];exact he
 have d0:w2.cell? ⟨b,0,none⟩=some (.pointer (some ⟨b,0,none⟩)):=by rw[Lib.cell_of_heap hd];rfl
 have d1:w2.cell? ⟨b,1,none⟩=some v:=by rw[Lib.cell_of_heap hd];rfl
 have f1:w2.frozen? ⟨b,1,none⟩=false:=Lib.frozen_of_heap hd 1;obtain⟨ao,n',cap,rfl⟩:∃ ao n' cap,v'=.slice ao n' cap:=by
  rcases hb.2 with ⟨hv,_⟩|⟨g,cap,cur,hv,_⟩
  ·exact⟨_,_,_,hv⟩
  ·exact⟨_,_,_,hv⟩
 go_wp2
 go_ret2
 refine⟨rfl,?_,?_⟩
 ·exact Lib.BuilderAt.put (T:=246) (e:=5) hB hd (bs':=bs++Lib.strCells s) (by simpa [Lib.strCells_length] using hb) (by decide)
 ·exact(hf.grown ha (by have:=hf.size;omega) (fun k hk=>(hc.lt k hk).1)).setCell (p:=⟨b,1,none⟩) hB _
theorem dropWhile_all {p:UInt8->Bool} :∀ l:List UInt8,(∀ x∈l.dropWhile p,p x=true)->∀ x∈l,p x=true
 | [],_=>fun x hx=>by cases hx
 | a::t,h=>by
   cases ha:p a with
   | true =>
     have h2:∀ x∈t.dropWhile p,p x=true:=by
      intro x hx;exact h x (by rw[List.dropWhile_cons_of_pos ha];exact hx)
     intro x hx;rcases List.mem_cons.1 hx with rfl|hx
     ·exact ha
     ·exact dropWhile_all t h2 x hx
   | false =>
     have:=h a (by rw[List.dropWhile_cons_of_neg (by rw[ha];decide)];exact List.mem_cons_self);rw[ha] at this;cases this
theorem trimS_nil {l cs:List UInt8} (h:Lib.trimS l cs=[]):∀ x∈l,cs.contains x=true:=by
 unfold Lib.trimS Lib.trimLeftS Lib.trimRightS at h;have h1:=dropWhile_all (p:=fun b=>cs.contains b) (l.reverse.dropWhile fun b=>cs.contains b).reverse (by rw[h];intro x hx;cases hx);have h2:=dropWhile_all (p:=fun b=>cs.contains b) l.reverse (fun x hx=>h1 x (List.mem_reverse.2 hx));exact fun x hx=>h2 x (List.mem_reverse.2 hx)
def digitL:List UInt8:=[48,49,50,51,52,53,54,55,56,57]
theorem digit_of {x:UInt8} (h:digitL.contains x=true):48<=x.toNat/\x.toNat<=57:=by
 simp only[digitL,List.contains_cons,List.contains_nil,Bool.or_eq_true,beq_iff_eq,Bool.false_eq_true,or_false] at h;rcases h with rfl|rfl|rfl|rfl|rfl|rfl|rfl|rfl|rfl|rfl<;>decide
theorem parse_ok:∀ (l:List UInt8) (acc:Nat),(∀ x∈l,48<=x.toNat/\x.toNat<=57)->(acc+1)*10 ^ l.length<=10 ^ 19->∃ u,Lib.parseUintM (2 ^ 64-1) acc l=.ok u/\u+1<=(acc+1)*10 ^ l.length
 | [],acc,_,_=>⟨acc,rfl,by simp⟩
 | c::r,acc,hd,hb=>by
   have hc:=hd c List.mem_cons_self;rw[List.length_cons,Nat.pow_succ] at hb;have h1:1<=10 ^ r.length:=Nat.pow_pos (by decide);have h2:(acc+1)*10<=10 ^ 19:=by
    refine Nat.le_trans ?_ hb;rw[Nat.mul_comm (10 ^ r.length) 10,<-Nat.mul_assoc];exact Nat.le_mul_of_pos_right _ h1
   have h3:(acc*10+(c.toNat-48)+1)*10 ^ r.length<=(acc+1)*(10 ^ r.length*10):=by
    rw[Nat.mul_comm (10 ^ r.length) 10,<-Nat.mul_assoc];exact Nat.mul_le_mul_right _ (by omega)
   obtain⟨u,hu,ha⟩:=parse_ok r (acc*10+(c.toNat-48)) (fun x hx=>hd x (List.mem_cons_of_mem _ hx)) (Nat.le_trans h3 hb);refine⟨u,?_,?_⟩
   ·rw[Lib.parseUintM,if_pos hc,if_neg (by omega),if_neg (by omega)];exact hu
   ·rw[List.length_cons,Nat.pow_succ];exact Nat.le_trans ha h3
theorem parse_okB (l:List UInt8) (h0:l≠[]) (hd:∀ x∈l,48<=x.toNat/\x.toNat<=57) (hl:l.length<=19):∃ u,Lib.parseUintB 64 l=.ok u/\u<18446744073709551616:=by
 obtain⟨u,hu,hle⟩:=parse_ok l 0 hd (by
  rw[Nat.zero_add,Nat.one_mul];exact Nat.pow_le_pow_right (by decide) hl)
 refine⟨u,?_,?_⟩
 ·unfold Lib.parseUintB;rw[if_neg h0];exact hu
 ·have:10 ^ l.length<=10 ^ 19:=Nat.pow_le_pow_right (by decide) hl;omega
end Go.Proofs.YtnccknhbplaieaaGreatDoor
