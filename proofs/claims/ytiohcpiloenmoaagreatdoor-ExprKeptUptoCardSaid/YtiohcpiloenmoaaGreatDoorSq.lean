/- slices.SortFunc at factors stands in this program as the kit knows it (its laying, at this program). -/
import Derived.Shelf.SlGeneric
import Derived.Shelf.SlSortCmp.NoneTotal
import Derived.Ground.SlsfProg
import Derived.Test.YtiohcpiloenmoaaGreatDoorProg
namespace Go.Proofs
open Go.Shelf
def Tryz.sortFL_ren : Go.Shelf.Ren := ⟨fun | 6 => 213 | 15 => 246 | 14 => 245 | 28 => 224 | 29 => 267 | 20 => 259 | 21 => 260 | 22 => 261 | 23 => 262 | 24 => 263 | 25 => 264 | 26 => 265 | 27 => 266 | 46 => 273 | 47 => 274 | 48 => 275 | 49 => 276 | 50 => 277 | 57 => 280 | n => n, fun | 22 => 70 | 24 => 77 | 25 => 249 | 3 => 3 | 39 => 225 | 0 => 0 | 53 => 118 | 55 => 139 | 4 => 4 | 46 => 291 | 45 => 290 | 50 => 147 | 5 => 5 | 9 => 9 | 66 => 299 | 70 => 303 | 76 => 305 | 77 => 306 | n => n, fun | n => n⟩
theorem Tryz.sortFL : Go.Proofs.SlLaysF0.n6 Tryz.prog Tryz.sortFL_ren := {
  mixed := by kernel_rfl
  f6 := ⟨Tryz.f213.name, by decide, Tryz.func213.trans (congrArg some (by kernel_rfl))⟩
  f14 := ⟨Tryz.f245.name, by decide, Tryz.func245.trans (congrArg some (by kernel_rfl))⟩
  f15 := Tryz.func246.trans (congrArg some (by kernel_rfl))
  f20 := ⟨Tryz.f259.name, by decide, Tryz.func259.trans (congrArg some (by kernel_rfl))⟩
  f21 := ⟨Tryz.f260.name, by decide, Tryz.func260.trans (congrArg some (by kernel_rfl))⟩
  f22 := ⟨Tryz.f261.name, by decide, Tryz.func261.trans (congrArg some (by kernel_rfl))⟩
  f23 := ⟨Tryz.f262.name, by decide, Tryz.func262.trans (congrArg some (by kernel_rfl))⟩
  f24 := ⟨Tryz.f263.name, by decide, Tryz.func263.trans (congrArg some (by kernel_rfl))⟩
  f25 := ⟨Tryz.f264.name, by decide, Tryz.func264.trans (congrArg some (by kernel_rfl))⟩
  f26 := ⟨Tryz.f265.name, by decide, Tryz.func265.trans (congrArg some (by kernel_rfl))⟩
  f27 := ⟨Tryz.f266.name, by decide, Tryz.func266.trans (congrArg some (by kernel_rfl))⟩
  f28 := Tryz.func224.trans (congrArg some (by kernel_rfl))
  f29 := Tryz.func267.trans (congrArg some (by kernel_rfl))
  f46 := ⟨Tryz.f273.name, by decide, Tryz.func273.trans (congrArg some (by kernel_rfl))⟩
  f47 := Tryz.func274.trans (congrArg some (by kernel_rfl))
  f48 := Tryz.func275.trans (congrArg some (by kernel_rfl))
  f49 := ⟨Tryz.f276.name, by decide, Tryz.func276.trans (congrArg some (by kernel_rfl))⟩
  f50 := ⟨Tryz.f277.name, by decide, Tryz.func277.trans (congrArg some (by kernel_rfl))⟩
  f57 := ⟨Tryz.f280.name, by decide, Tryz.func280.trans (congrArg some (by kernel_rfl))⟩
  t0 := Tryz.underlying0
  a0 := Tryz.isAgg0
  z0 := Tryz.sizeOf0
  v0 := Tryz.zeroValue0
  t3 := Tryz.underlying3
  a3 := Tryz.isAgg3
  z3 := Tryz.sizeOf3
  v3 := Tryz.zeroValue3
  t4 := Tryz.underlying4
  a4 := Tryz.isAgg4
  z4 := Tryz.sizeOf4
  v4 := Tryz.zeroValue4
  t5 := Tryz.underlying5
  a5 := Tryz.isAgg5
  z5 := Tryz.sizeOf5
  v5 := Tryz.zeroValue5
  t9 := Tryz.underlying9
  a9 := Tryz.isAgg9
  z9 := Tryz.sizeOf9
  v9 := Tryz.zeroValue9
  t22 := Tryz.underlying70
  a22 := Tryz.isAgg70
  z22 := Tryz.sizeOf70
  v22 := Tryz.zeroValue70
  t25 := Tryz.underlying249
  a25 := Tryz.isAgg249
  z25 := Tryz.sizeOf249
  v25 := Tryz.zeroValue249
  t39 := Tryz.underlying225
  a39 := Tryz.isAgg225
  z39 := Tryz.sizeOf225
  v39 := Tryz.zeroValue225
  t45 := Tryz.underlying290
  a45 := Tryz.isAgg290
  z45 := Tryz.sizeOf290
  v45 := Tryz.zeroValue290
  t46 := Tryz.underlying291
  a46 := Tryz.isAgg291
  z46 := Tryz.sizeOf291
  v46 := Tryz.zeroValue291
  t50 := Tryz.underlying147
  a50 := Tryz.isAgg147
  z50 := Tryz.sizeOf147
  v50 := Tryz.zeroValue147
  t53 := Tryz.underlying118
  a53 := Tryz.isAgg118
  z53 := Tryz.sizeOf118
  v53 := Tryz.zeroValue118
  t55 := Tryz.underlying139
  a55 := Tryz.isAgg139
  z55 := Tryz.sizeOf139
  v55 := Tryz.zeroValue139
  t66 := Tryz.underlying299
  a66 := Tryz.isAgg299
  z66 := Tryz.sizeOf299
  v66 := Tryz.zeroValue299
  t70 := Tryz.underlying303
  a70 := Tryz.isAgg303
  z70 := Tryz.sizeOf303
  v70 := Tryz.zeroValue303
  t76 := Tryz.underlying305
  a76 := Tryz.isAgg305
  z76 := Tryz.sizeOf305
  v76 := Tryz.zeroValue305
  t77 := Tryz.underlying306
  a77 := Tryz.isAgg306
  z77 := Tryz.sizeOf306
  v77 := Tryz.zeroValue306 }
end Go.Proofs
