/- slices.SortFunc at factors stands in this program as the kit knows it (its laying, at this program). -/
import Derived.Shelf.SlGeneric
import Derived.Shelf.SlSortCmp.NoneTotal
import Derived.Ground.SlsfProg
import Derived.Test.YtdccpmlhflpeaaaGreatDoorProg
namespace Go.Proofs
open Go.Shelf
def Tryz.sortFL_ren : Go.Shelf.Ren := ⟨fun | 6 => 229 | 15 => 247 | 14 => 246 | 28 => 221 | 29 => 250 | 20 => 257 | 21 => 258 | 22 => 259 | 23 => 260 | 24 => 261 | 25 => 262 | 26 => 263 | 27 => 264 | 46 => 267 | 47 => 268 | 48 => 269 | 49 => 270 | 50 => 271 | 57 => 273 | n => n, fun | 22 => 90 | 24 => 96 | 25 => 254 | 3 => 3 | 39 => 154 | 0 => 0 | 53 => 105 | 55 => 61 | 4 => 4 | 46 => 282 | 45 => 281 | 50 => 126 | 5 => 5 | 9 => 9 | 66 => 287 | 70 => 291 | 76 => 294 | 77 => 295 | n => n, fun | n => n⟩
theorem Tryz.sortFL : Go.Proofs.SlLaysF0.n6 Tryz.prog Tryz.sortFL_ren := {
  mixed := by kernel_rfl
  f6 := ⟨Tryz.f229.name, by decide, Tryz.func229.trans (congrArg some (by kernel_rfl))⟩
  f14 := ⟨Tryz.f246.name, by decide, Tryz.func246.trans (congrArg some (by kernel_rfl))⟩
  f15 := Tryz.func247.trans (congrArg some (by kernel_rfl))
  f20 := ⟨Tryz.f257.name, by decide, Tryz.func257.trans (congrArg some (by kernel_rfl))⟩
  f21 := ⟨Tryz.f258.name, by decide, Tryz.func258.trans (congrArg some (by kernel_rfl))⟩
  f22 := ⟨Tryz.f259.name, by decide, Tryz.func259.trans (congrArg some (by kernel_rfl))⟩
  f23 := ⟨Tryz.f260.name, by decide, Tryz.func260.trans (congrArg some (by kernel_rfl))⟩
  f24 := ⟨Tryz.f261.name, by decide, Tryz.func261.trans (congrArg some (by kernel_rfl))⟩
  f25 := ⟨Tryz.f262.name, by decide, Tryz.func262.trans (congrArg some (by kernel_rfl))⟩
  f26 := ⟨Tryz.f263.name, by decide, Tryz.func263.trans (congrArg some (by kernel_rfl))⟩
  f27 := ⟨Tryz.f264.name, by decide, Tryz.func264.trans (congrArg some (by kernel_rfl))⟩
  f28 := Tryz.func221.trans (congrArg some (by kernel_rfl))
  f29 := Tryz.func250.trans (congrArg some (by kernel_rfl))
  f46 := ⟨Tryz.f267.name, by decide, Tryz.func267.trans (congrArg some (by kernel_rfl))⟩
  f47 := Tryz.func268.trans (congrArg some (by kernel_rfl))
  f48 := Tryz.func269.trans (congrArg some (by kernel_rfl))
  f49 := ⟨Tryz.f270.name, by decide, Tryz.func270.trans (congrArg some (by kernel_rfl))⟩
  f50 := ⟨Tryz.f271.name, by decide, Tryz.func271.trans (congrArg some (by kernel_rfl))⟩
  f57 := ⟨Tryz.f273.name, by decide, Tryz.func273.trans (congrArg some (by kernel_rfl))⟩
  t0 := Tryz.underlying0
  a0 := Tryz.isAgg0
  z0 := Tryz.sizeOf0
  v0 := Tryz.zeroValue0
  t3 := Tryz.underlying3
  a3 := Tryz.isAgg3
  z3 := Tryz.sizeOf3
  v3 := Tryz.zeroValue3
  t4 := Tryz.underlying4
  a4 := Tryz.isAgg4
  z4 := Tryz.sizeOf4
  v4 := Tryz.zeroValue4
  t5 := Tryz.underlying5
  a5 := Tryz.isAgg5
  z5 := Tryz.sizeOf5
  v5 := Tryz.zeroValue5
  t9 := Tryz.underlying9
  a9 := Tryz.isAgg9
  z9 := Tryz.sizeOf9
  v9 := Tryz.zeroValue9
  t22 := Tryz.underlying90
  a22 := Tryz.isAgg90
  z22 := Tryz.sizeOf90
  v22 := Tryz.zeroValue90
  t25 := Tryz.underlying254
  a25 := Tryz.isAgg254
  z25 := Tryz.sizeOf254
  v25 := Tryz.zeroValue254
  t39 := Tryz.underlying154
  a39 := Tryz.isAgg154
  z39 := Tryz.sizeOf154
  v39 := Tryz.zeroValue154
  t45 := Tryz.underlying281
  a45 := Tryz.isAgg281
  z45 := Tryz.sizeOf281
  v45 := Tryz.zeroValue281
  t46 := Tryz.underlying282
  a46 := Tryz.isAgg282
  z46 := Tryz.sizeOf282
  v46 := Tryz.zeroValue282
  t50 := Tryz.underlying126
  a50 := Tryz.isAgg126
  z50 := Tryz.sizeOf126
  v50 := Tryz.zeroValue126
  t53 := Tryz.underlying105
  a53 := Tryz.isAgg105
  z53 := Tryz.sizeOf105
  v53 := Tryz.zeroValue105
  t55 := Tryz.underlying61
  a55 := Tryz.isAgg61
  z55 := Tryz.sizeOf61
  v55 := Tryz.zeroValue61
  t66 := Tryz.underlying287
  a66 := Tryz.isAgg287
  z66 := Tryz.sizeOf287
  v66 := Tryz.zeroValue287
  t70 := Tryz.underlying291
  a70 := Tryz.isAgg291
  z70 := Tryz.sizeOf291
  v70 := Tryz.zeroValue291
  t76 := Tryz.underlying294
  a76 := Tryz.isAgg294
  z76 := Tryz.sizeOf294
  v76 := Tryz.zeroValue294
  t77 := Tryz.underlying295
  a77 := Tryz.isAgg295
  z77 := Tryz.sizeOf295
  v77 := Tryz.zeroValue295 }
end Go.Proofs
