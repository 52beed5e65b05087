/-
  Parts of a proof: Srt.
-/
import Derived.Shelf.SlIterI.Sorted
import Derived.Shelf.SortM.Plain
import Derived.Shelf.SortM.SortNone
import Derived.Ground.GgzProg
import Derived.Ground.SlgmProg
import Derived.Test.YtegbhdeaicgpkaaGreatDoorProg
set_option linter.all false
namespace Go.Proofs
open Go.Shelf
def Tryz.sorted187_ren : Go.Shelf.Ren := ⟨fun | 6 => 187 | 8 => 236 | 9 => 193 | 11 => 276 | 13 => 239 | 12 => 238 | 23 => 286 | 24 => 275 | 14 => 277 | 15 => 278 | 16 => 279 | 17 => 280 | 18 => 281 | 19 => 282 | 20 => 283 | 21 => 284 | 22 => 285 | 25 => 316 | 26 => 317 | 27 => 318 | 28 => 319 | 29 => 320 | 30 => 288 | 31 => 336 | n => n, fun | 26 => 2 | 28 => 226 | 24 => 97 | 0 => 0 | 3 => 3 | 37 => 187 | 48 => 70 | 50 => 157 | 4 => 4 | 40 => 297 | 39 => 296 | 45 => 167 | 5 => 5 | 9 => 9 | 51 => 321 | 55 => 325 | 57 => 338 | 58 => 339 | 33 => 117 | n => n, fun | n => n⟩
theorem Tryz.sorted187 : Go.Proofs.SlLaysZI.n6 Tryz.prog Tryz.sorted187_ren := {
  mixed := by kernel_rfl
  f6 := ⟨Tryz.f187.name, by decide, Tryz.func187.trans (congrArg some (by kernel_rfl))⟩
  f8 := ⟨Tryz.f236.name, by decide, Tryz.func236.trans (congrArg some (by kernel_rfl))⟩
  f11 := ⟨Tryz.f276.name, by decide, Tryz.func276.trans (congrArg some (by kernel_rfl))⟩
  t0 := Tryz.underlying0
  a0 := Tryz.isAgg0
  z0 := Tryz.sizeOf0
  v0 := Tryz.zeroValue0
  t24 := Tryz.underlying97
  a24 := Tryz.isAgg97
  z24 := Tryz.sizeOf97
  v24 := Tryz.zeroValue97
  t26 := Tryz.underlying2
  a26 := Tryz.isAgg2
  z26 := Tryz.sizeOf2
  v26 := Tryz.zeroValue2
  t28 := Tryz.underlying226
  a28 := Tryz.isAgg226
  z28 := Tryz.sizeOf226
  v28 := Tryz.zeroValue226
  i26 := by kernel_rfl }
def Tryz.sort193_ren : Go.Shelf.Ren := ⟨fun | 5 => 193 | 8 => 239 | 7 => 238 | 19 => 286 | 20 => 275 | 10 => 277 | 11 => 278 | 12 => 279 | 13 => 280 | 14 => 281 | 15 => 282 | 16 => 283 | 17 => 284 | 18 => 285 | 30 => 316 | 31 => 317 | 32 => 318 | 33 => 319 | 34 => 320 | 35 => 288 | 40 => 336 | n => n, fun | 23 => 97 | 25 => 2 | 3 => 3 | 32 => 187 | 22 => 97 | 0 => 0 | 44 => 70 | 46 => 157 | 4 => 4 | 36 => 297 | 35 => 296 | 41 => 167 | 5 => 5 | 9 => 9 | 53 => 321 | 57 => 325 | 63 => 338 | 64 => 339 | n => n, fun | n => n⟩
theorem Tryz.sort193 : Go.Proofs.SlLaysM.n5 Tryz.prog Tryz.sort193_ren := {
  mixed := by kernel_rfl
  f5 := ⟨Tryz.f193.name, by decide, Tryz.func193.trans (congrArg some (by kernel_rfl))⟩
  f7 := ⟨Tryz.f238.name, by decide, Tryz.func238.trans (congrArg some (by kernel_rfl))⟩
  f8 := Tryz.func239.trans (congrArg some (by kernel_rfl))
  f10 := ⟨Tryz.f277.name, by decide, Tryz.func277.trans (congrArg some (by kernel_rfl))⟩
  f11 := ⟨Tryz.f278.name, by decide, Tryz.func278.trans (congrArg some (by kernel_rfl))⟩
  f12 := ⟨Tryz.f279.name, by decide, Tryz.func279.trans (congrArg some (by kernel_rfl))⟩
  f13 := ⟨Tryz.f280.name, by decide, Tryz.func280.trans (congrArg some (by kernel_rfl))⟩
  f14 := ⟨Tryz.f281.name, by decide, Tryz.func281.trans (congrArg some (by kernel_rfl))⟩
  f15 := ⟨Tryz.f282.name, by decide, Tryz.func282.trans (congrArg some (by kernel_rfl))⟩
  f16 := ⟨Tryz.f283.name, by decide, Tryz.func283.trans (congrArg some (by kernel_rfl))⟩
  f17 := ⟨Tryz.f284.name, by decide, Tryz.func284.trans (congrArg some (by kernel_rfl))⟩
  f18 := ⟨Tryz.f285.name, by decide, Tryz.func285.trans (congrArg some (by kernel_rfl))⟩
  f19 := Tryz.func286.trans (congrArg some (by kernel_rfl))
  f20 := Tryz.func275.trans (congrArg some (by kernel_rfl))
  f30 := ⟨Tryz.f316.name, by decide, Tryz.func316.trans (congrArg some (by kernel_rfl))⟩
  f31 := Tryz.func317.trans (congrArg some (by kernel_rfl))
  f32 := Tryz.func318.trans (congrArg some (by kernel_rfl))
  f33 := ⟨Tryz.f319.name, by decide, Tryz.func319.trans (congrArg some (by kernel_rfl))⟩
  f34 := ⟨Tryz.f320.name, by decide, Tryz.func320.trans (congrArg some (by kernel_rfl))⟩
  f35 := ⟨Tryz.f288.name, by decide, Tryz.func288.trans (congrArg some (by kernel_rfl))⟩
  f40 := ⟨Tryz.f336.name, by decide, Tryz.func336.trans (congrArg some (by kernel_rfl))⟩
  t0 := Tryz.underlying0
  a0 := Tryz.isAgg0
  z0 := Tryz.sizeOf0
  v0 := Tryz.zeroValue0
  t3 := Tryz.underlying3
  a3 := Tryz.isAgg3
  z3 := Tryz.sizeOf3
  v3 := Tryz.zeroValue3
  t4 := Tryz.underlying4
  a4 := Tryz.isAgg4
  z4 := Tryz.sizeOf4
  v4 := Tryz.zeroValue4
  t5 := Tryz.underlying5
  a5 := Tryz.isAgg5
  z5 := Tryz.sizeOf5
  v5 := Tryz.zeroValue5
  t9 := Tryz.underlying9
  a9 := Tryz.isAgg9
  z9 := Tryz.sizeOf9
  v9 := Tryz.zeroValue9
  t22 := Tryz.underlying97
  a22 := Tryz.isAgg97
  z22 := Tryz.sizeOf97
  v22 := Tryz.zeroValue97
  t23 := Tryz.underlying97
  a23 := Tryz.isAgg97
  z23 := Tryz.sizeOf97
  v23 := Tryz.zeroValue97
  t25 := Tryz.underlying2
  a25 := Tryz.isAgg2
  z25 := Tryz.sizeOf2
  v25 := Tryz.zeroValue2
  t32 := Tryz.underlying187
  a32 := Tryz.isAgg187
  z32 := Tryz.sizeOf187
  v32 := Tryz.zeroValue187
  t35 := Tryz.underlying296
  a35 := Tryz.isAgg296
  z35 := Tryz.sizeOf296
  v35 := Tryz.zeroValue296
  t36 := Tryz.underlying297
  a36 := Tryz.isAgg297
  z36 := Tryz.sizeOf297
  v36 := Tryz.zeroValue297
  t41 := Tryz.underlying167
  a41 := Tryz.isAgg167
  z41 := Tryz.sizeOf167
  v41 := Tryz.zeroValue167
  t44 := Tryz.underlying70
  a44 := Tryz.isAgg70
  z44 := Tryz.sizeOf70
  v44 := Tryz.zeroValue70
  t46 := Tryz.underlying157
  a46 := Tryz.isAgg157
  z46 := Tryz.sizeOf157
  v46 := Tryz.zeroValue157
  t53 := Tryz.underlying321
  a53 := Tryz.isAgg321
  z53 := Tryz.sizeOf321
  v53 := Tryz.zeroValue321
  t57 := Tryz.underlying325
  a57 := Tryz.isAgg325
  z57 := Tryz.sizeOf325
  v57 := Tryz.zeroValue325
  t63 := Tryz.underlying338
  a63 := Tryz.isAgg338
  z63 := Tryz.sizeOf338
  v63 := Tryz.zeroValue338
  t64 := Tryz.underlying339
  a64 := Tryz.isAgg339
  z64 := Tryz.sizeOf339
  v64 := Tryz.zeroValue339 }
open Go.RowKit Go.Sort Go.Shelf
theorem Tryz.sorts187 (m : Nat) : AnyZI.SortsIn Tryz.prog Tryz.sorted187_ren Fence.wide m :=
  ⟨fun blk off cap ss W hH hblk hsz => callsIn_wide.2 (AnyM.slices_Sort_int Tryz.sort193 blk off cap ss W hH hblk hsz),
   fun p cap W => callsIn_wide.2 (AnyM.slices_Sort_int_none Tryz.sort193 p cap W)⟩
end Go.Proofs
