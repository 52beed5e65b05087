/-
  Parts of a proof: Rev.
-/
import Derived.Test.YtegbhdeaicgpkaaGreatDoorProg
import Derived.Shelf.SlGeneric
import Derived.Ground.SlgnProg
import Derived.Shelf.SlicesE.Reverse
set_option linter.all false
namespace Go.Proofs
open Go.Shelf
def Tryz.layRev_ren : Go.Shelf.Ren := ⟨fun | 35 => 175 | n => n, fun | 22 => 194 | 23 => 5 | 3 => 3 | 4 => 4 | 0 => 0 | n => n, fun | n => n⟩
theorem Tryz.layRev : Go.Proofs.SlLaysE.n35 Tryz.prog Tryz.layRev_ren := {
  mixed := by kernel_rfl
  f35 := ⟨Tryz.f175.name, by decide, Tryz.func175.trans (congrArg some (by kernel_rfl))⟩
  t0 := Tryz.underlying0
  a0 := Tryz.isAgg0
  z0 := Tryz.sizeOf0
  v0 := Tryz.zeroValue0
  t3 := Tryz.underlying3
  a3 := Tryz.isAgg3
  z3 := Tryz.sizeOf3
  v3 := Tryz.zeroValue3
  t4 := Tryz.underlying4
  a4 := Tryz.isAgg4
  z4 := Tryz.sizeOf4
  v4 := Tryz.zeroValue4
  t22 := Tryz.underlying194
  a22 := Tryz.isAgg194
  z22 := Tryz.sizeOf194
  v22 := Tryz.zeroValue194
  a23 := Tryz.isAgg5
  z23 := Tryz.sizeOf5 }
end Go.Proofs
