/- slices.SortFunc at factors stands in this program as the kit knows it (its laying, at this program). -/
import Derived.Shelf.SlGeneric
import Derived.Shelf.SlSortCmp.NoneTotal
import Derived.Ground.SlsfProg
import Derived.Test.YtblecjeceecaaaaGreatDoorProg
namespace Go.Proofs
open Go.Shelf
def Tryz.sortFL_ren : Go.Shelf.Ren := ⟨fun | 6 => 301 | 15 => 336 | 14 => 335 | 28 => 275 | 29 => 360 | 20 => 352 | 21 => 353 | 22 => 354 | 23 => 355 | 24 => 356 | 25 => 357 | 26 => 358 | 27 => 359 | 46 => 369 | 47 => 370 | 48 => 371 | 49 => 372 | 50 => 373 | 57 => 377 | n => n, fun | 22 => 72 | 24 => 79 | 25 => 312 | 3 => 3 | 39 => 222 | 0 => 0 | 53 => 153 | 55 => 107 | 4 => 4 | 46 => 353 | 45 => 352 | 50 => 193 | 5 => 5 | 9 => 9 | 66 => 362 | 70 => 366 | 76 => 368 | 77 => 369 | n => n, fun | n => n⟩
theorem Tryz.sortFL : Go.Proofs.SlLaysF0.n6 Tryz.prog Tryz.sortFL_ren := {
  mixed := by kernel_rfl
  f6 := ⟨Tryz.f301.name, by decide, Tryz.func301.trans (congrArg some (by kernel_rfl))⟩
  f14 := ⟨Tryz.f335.name, by decide, Tryz.func335.trans (congrArg some (by kernel_rfl))⟩
  f15 := Tryz.func336.trans (congrArg some (by kernel_rfl))
  f20 := ⟨Tryz.f352.name, by decide, Tryz.func352.trans (congrArg some (by kernel_rfl))⟩
  f21 := ⟨Tryz.f353.name, by decide, Tryz.func353.trans (congrArg some (by kernel_rfl))⟩
  f22 := ⟨Tryz.f354.name, by decide, Tryz.func354.trans (congrArg some (by kernel_rfl))⟩
  f23 := ⟨Tryz.f355.name, by decide, Tryz.func355.trans (congrArg some (by kernel_rfl))⟩
  f24 := ⟨Tryz.f356.name, by decide, Tryz.func356.trans (congrArg some (by kernel_rfl))⟩
  f25 := ⟨Tryz.f357.name, by decide, Tryz.func357.trans (congrArg some (by kernel_rfl))⟩
  f26 := ⟨Tryz.f358.name, by decide, Tryz.func358.trans (congrArg some (by kernel_rfl))⟩
  f27 := ⟨Tryz.f359.name, by decide, Tryz.func359.trans (congrArg some (by kernel_rfl))⟩
  f28 := Tryz.func275.trans (congrArg some (by kernel_rfl))
  f29 := Tryz.func360.trans (congrArg some (by kernel_rfl))
  f46 := ⟨Tryz.f369.name, by decide, Tryz.func369.trans (congrArg some (by kernel_rfl))⟩
  f47 := Tryz.func370.trans (congrArg some (by kernel_rfl))
  f48 := Tryz.func371.trans (congrArg some (by kernel_rfl))
  f49 := ⟨Tryz.f372.name, by decide, Tryz.func372.trans (congrArg some (by kernel_rfl))⟩
  f50 := ⟨Tryz.f373.name, by decide, Tryz.func373.trans (congrArg some (by kernel_rfl))⟩
  f57 := ⟨Tryz.f377.name, by decide, Tryz.func377.trans (congrArg some (by kernel_rfl))⟩
  t0 := Tryz.underlying0
  a0 := Tryz.isAgg0
  z0 := Tryz.sizeOf0
  v0 := Tryz.zeroValue0
  t3 := Tryz.underlying3
  a3 := Tryz.isAgg3
  z3 := Tryz.sizeOf3
  v3 := Tryz.zeroValue3
  t4 := Tryz.underlying4
  a4 := Tryz.isAgg4
  z4 := Tryz.sizeOf4
  v4 := Tryz.zeroValue4
  t5 := Tryz.underlying5
  a5 := Tryz.isAgg5
  z5 := Tryz.sizeOf5
  v5 := Tryz.zeroValue5
  t9 := Tryz.underlying9
  a9 := Tryz.isAgg9
  z9 := Tryz.sizeOf9
  v9 := Tryz.zeroValue9
  t22 := Tryz.underlying72
  a22 := Tryz.isAgg72
  z22 := Tryz.sizeOf72
  v22 := Tryz.zeroValue72
  t25 := Tryz.underlying312
  a25 := Tryz.isAgg312
  z25 := Tryz.sizeOf312
  v25 := Tryz.zeroValue312
  t39 := Tryz.underlying222
  a39 := Tryz.isAgg222
  z39 := Tryz.sizeOf222
  v39 := Tryz.zeroValue222
  t45 := Tryz.underlying352
  a45 := Tryz.isAgg352
  z45 := Tryz.sizeOf352
  v45 := Tryz.zeroValue352
  t46 := Tryz.underlying353
  a46 := Tryz.isAgg353
  z46 := Tryz.sizeOf353
  v46 := Tryz.zeroValue353
  t50 := Tryz.underlying193
  a50 := Tryz.isAgg193
  z50 := Tryz.sizeOf193
  v50 := Tryz.zeroValue193
  t53 := Tryz.underlying153
  a53 := Tryz.isAgg153
  z53 := Tryz.sizeOf153
  v53 := Tryz.zeroValue153
  t55 := Tryz.underlying107
  a55 := Tryz.isAgg107
  z55 := Tryz.sizeOf107
  v55 := Tryz.zeroValue107
  t66 := Tryz.underlying362
  a66 := Tryz.isAgg362
  z66 := Tryz.sizeOf362
  v66 := Tryz.zeroValue362
  t70 := Tryz.underlying366
  a70 := Tryz.isAgg366
  z70 := Tryz.sizeOf366
  v70 := Tryz.zeroValue366
  t76 := Tryz.underlying368
  a76 := Tryz.isAgg368
  z76 := Tryz.sizeOf368
  v76 := Tryz.zeroValue368
  t77 := Tryz.underlying369
  a77 := Tryz.isAgg369
  z77 := Tryz.sizeOf369
  v77 := Tryz.zeroValue369 }
end Go.Proofs
