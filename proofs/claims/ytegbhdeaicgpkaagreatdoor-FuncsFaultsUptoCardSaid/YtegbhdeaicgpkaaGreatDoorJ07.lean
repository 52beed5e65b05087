/-
  Parts of a proof: ShelfRep.
-/
import Derived.Shelf.Strings.Builder1
import Derived.Shelf.Strings.Builder2
import Derived.Shelf.Strings.Trim
import Derived.Shelf.Small.Utf8
import Derived.Shelf.Small.Bits
import Derived.Shelf.Small.Strs
import Derived.Shelf.Strings.BuilderF
import Derived.Shelf.Strconv.Itoa0
import Derived.Shelf.Strconv.Itoa1
import Derived.Shelf.LaysM
import Derived.Shelf.Strconv.Itoa2
import Derived.Shelf.Strconv.Itoa3
import Derived.Shelf.Strings.Search1
import Derived.Shelf.Strings.Search2
import Derived.Shelf.Strings.Search3
import Derived.Shelf.Strings.Cut
import Derived.Shelf.Strings.Shaped
import Derived.Shelf.Strings.Prefix
import Derived.Shelf.Unicode.Decode
import Derived.Shelf.Strings.Runes
import Derived.Shelf.Strings.AsciiSet
import Derived.Shelf.Bits.Mul64
import Derived.Shelf.Strings.Repeat
import Derived.Shelf.Unicode.DecodeSlow
import Derived.Shelf.Unicode.DecodeAny
import Derived.Shelf.Unicode.DecodeLast
import Derived.Test.YtegbhdeaicgpkaaGreatDoorProg
set_option linter.all false
namespace Go.Proofs
open Go.Shelf
def Tryz.lays105_ren : Go.Shelf.Ren := ⟨fun | 105 => 93 | 212 => 172 | 99 => 173 | 165 => 174 | 166 => 170 | 170 => 169 | 169 => 171 | 263 => 224 | 264 => 152 | 206 => 225 | 240 => 223 | 241 => 226 | 276 => 262 | 277 => 263 | n => n, fun | 9 => 9 | 3 => 3 | 4 => 4 | 20 => 20 | 0 => 0 | 46 => 187 | 109 => 211 | 5 => 5 | 72 => 202 | 76 => 208 | 51 => 70 | 146 => 255 | 53 => 157 | 148 => 180 | 70 => 200 | 37 => 194 | 75 => 207 | 127 => 254 | 164 => 283 | 80 => 210 | n => n, fun | n => n⟩
theorem Tryz.lays105 : Go.Proofs.Lays.n105 Tryz.prog Tryz.lays105_ren := {
  mixed := by kernel_rfl
  f99 := Tryz.func173.trans (congrArg some (by kernel_rfl))
  f105 := Tryz.func93.trans (congrArg some (by kernel_rfl))
  f165 := Tryz.func174.trans (congrArg some (by kernel_rfl))
  f166 := Tryz.func170.trans (congrArg some (by kernel_rfl))
  f169 := Tryz.func171.trans (congrArg some (by kernel_rfl))
  f170 := Tryz.func169.trans (congrArg some (by kernel_rfl))
  f206 := Tryz.func225.trans (congrArg some (by kernel_rfl))
  f212 := Tryz.func172.trans (congrArg some (by kernel_rfl))
  f240 := Tryz.func223.trans (congrArg some (by kernel_rfl))
  f241 := Tryz.func226.trans (congrArg some (by kernel_rfl))
  f263 := Tryz.func224.trans (congrArg some (by kernel_rfl))
  f264 := Tryz.func152.trans (congrArg some (by kernel_rfl))
  f276 := Tryz.func262.trans (congrArg some (by kernel_rfl))
  f277 := Tryz.func263.trans (congrArg some (by kernel_rfl))
  t0 := Tryz.underlying0
  a0 := Tryz.isAgg0
  z0 := Tryz.sizeOf0
  v0 := Tryz.zeroValue0
  t3 := Tryz.underlying3
  a3 := Tryz.isAgg3
  z3 := Tryz.sizeOf3
  v3 := Tryz.zeroValue3
  t4 := Tryz.underlying4
  a4 := Tryz.isAgg4
  z4 := Tryz.sizeOf4
  v4 := Tryz.zeroValue4
  t5 := Tryz.underlying5
  a5 := Tryz.isAgg5
  z5 := Tryz.sizeOf5
  v5 := Tryz.zeroValue5
  t9 := Tryz.underlying9
  a9 := Tryz.isAgg9
  z9 := Tryz.sizeOf9
  v9 := Tryz.zeroValue9
  t20 := Tryz.underlying20
  a20 := Tryz.isAgg20
  z20 := Tryz.sizeOf20
  v20 := Tryz.zeroValue20
  t37 := Tryz.underlying194
  a37 := Tryz.isAgg194
  z37 := Tryz.sizeOf194
  v37 := Tryz.zeroValue194
  t46 := Tryz.underlying187
  a46 := Tryz.isAgg187
  z46 := Tryz.sizeOf187
  v46 := Tryz.zeroValue187
  t51 := Tryz.underlying70
  a51 := Tryz.isAgg70
  z51 := Tryz.sizeOf70
  v51 := Tryz.zeroValue70
  t53 := Tryz.underlying157
  a53 := Tryz.isAgg157
  z53 := Tryz.sizeOf157
  v53 := Tryz.zeroValue157
  t70 := Tryz.underlying200
  a70 := Tryz.isAgg200
  z70 := Tryz.sizeOf200
  v70 := Tryz.zeroValue200
  t72 := Tryz.underlying202
  a72 := Tryz.isAgg202
  z72 := Tryz.sizeOf202
  v72 := Tryz.zeroValue202
  t75 := Tryz.underlying207
  a75 := Tryz.isAgg207
  z75 := Tryz.sizeOf207
  v75 := Tryz.zeroValue207
  t76 := Tryz.underlying208
  a76 := Tryz.isAgg208
  z76 := Tryz.sizeOf208
  v76 := Tryz.zeroValue208
  t109 := Tryz.underlying211
  a109 := Tryz.isAgg211
  z109 := Tryz.sizeOf211
  v109 := Tryz.zeroValue211
  t127 := Tryz.underlying254
  a127 := Tryz.isAgg254
  z127 := Tryz.sizeOf254
  v127 := Tryz.zeroValue254
  t146 := Tryz.underlying255
  a146 := Tryz.isAgg255
  z146 := Tryz.sizeOf255
  v146 := Tryz.zeroValue255
  t148 := Tryz.underlying180
  a148 := Tryz.isAgg180
  z148 := Tryz.sizeOf180
  v148 := Tryz.zeroValue180
  t164 := Tryz.underlying283
  a164 := Tryz.isAgg283
  z164 := Tryz.sizeOf283
  v164 := Tryz.zeroValue283 }
theorem Tryz.Builder_Extra_105 : Builder.Extra Tryz.prog Tryz.lays105_ren := {
  sizeBuilder := by kernel_rfl
  liesBuilder := by kernel_rfl
  t5 := Tryz.underlying5
  a5 := Tryz.isAgg5
  z5 := Tryz.sizeOf5
  v5 := Tryz.zeroValue5
  infoByte := by kernel_rfl
  cellsByte := by kernel_rfl
  sizeByte := by kernel_rfl
  neB5 := by decide }
open Go.RowKit Go.Lib in
theorem Tryz.strings_Repeat_main (s : ByteArray) (c : Nat) (w : World) (hc2 : 2 ≤ c) (hc : c ≤ 9223372036854775807) (hlen : s.size * c ≤ 140737488355328) (h0 : 0 < s.size) :
    Calls Tryz.prog 93 #[.string s, .int .i64 c] w fun e w' => e = .returned (.string ⟨(Lib.repeatL s.data.toList c).toArray⟩) ∧ Below w.heap.size w w' := Any.strings_Repeat_main Tryz.lays105 Tryz.Builder_Extra_105 s c w hc2 hc hlen h0
end Go.Proofs
