/- slices.Equal at factors stands in this program as the kit knows it (its laying, at this program). -/
import Derived.Shelf.SlGeneric
import Derived.Shelf.SlicesQ.Equal
import Derived.Ground.SlgqProg
import Derived.Test.YtblecjeceecaaaaGreatDoorProg
namespace Go.Proofs
open Go.Shelf
def Tryz.equalFL_ren : Go.Shelf.Ren := ⟨fun | 8 => 40 | n => n, fun | 22 => 72 | 24 => 79 | 4 => 4 | 3 => 3 | 0 => 0 | n => n, fun | n => n⟩
theorem Tryz.equalFL : Go.Proofs.SlLaysQ.n8 Tryz.prog Tryz.equalFL_ren := {
  mixed := by kernel_rfl
  f8 := ⟨Tryz.f40.name, by decide, Tryz.func40.trans (congrArg some (by kernel_rfl))⟩
  t0 := Tryz.underlying0
  a0 := Tryz.isAgg0
  z0 := Tryz.sizeOf0
  v0 := Tryz.zeroValue0
  t3 := Tryz.underlying3
  a3 := Tryz.isAgg3
  z3 := Tryz.sizeOf3
  v3 := Tryz.zeroValue3
  t4 := Tryz.underlying4
  a4 := Tryz.isAgg4
  z4 := Tryz.sizeOf4
  v4 := Tryz.zeroValue4
  t22 := Tryz.underlying72
  a22 := Tryz.isAgg72
  z22 := Tryz.sizeOf72
  v22 := Tryz.zeroValue72 }
end Go.Proofs
