/- strconv.Itoa hands back the decimal text of every int (the kit's contract, laid at this program). -/
import Derived.Shelf.Strconv.Itoa0
import Derived.Shelf.Strconv.Itoa1
import Derived.Shelf.LaysM
import Derived.Shelf.Strconv.Itoa2
import Derived.Shelf.Strconv.Itoa3
import Derived.Test.YtiohcpiloenmoaaGreatDoorProg
namespace Go.Proofs
open Go.Shelf
def Tryz.laysM171_ren : Go.Shelf.Ren := ⟨fun | 171 => 122 | 243 => 175 | 246 => 219 | 283 => 248 | 284 => 249 | 285 => 250 | 286 => 251 | 129 => 267 | 317 => 268 | 318 => 269 | 319 => 270 | 320 => 271 | 337 => 223 | 338 => 278 | n => n, fun | 3 => 3 | 9 => 9 | 2 => 2 | 4 => 4 | 171 => 273 | 0 => 0 | 53 => 139 | 37 => 120 | 5 => 5 | 173 => 276 | 212 => 297 | 51 => 118 | 20 => 20 | 213 => 298 | 46 => 225 | 232 => 278 | 233 => 308 | n => n, fun | 17 => 4 | 18 => 1 | 19 => 5 | n => n⟩
theorem Tryz.laysM171 : Go.Proofs.LaysM.n171 Tryz.prog Tryz.laysM171_ren := {
  mixed := by kernel_rfl
  f129 := Tryz.func267.trans (congrArg some (by kernel_rfl))
  f171 := Tryz.func122.trans (congrArg some (by kernel_rfl))
  f243 := Tryz.func175.trans (congrArg some (by kernel_rfl))
  f246 := Tryz.func219.trans (congrArg some (by kernel_rfl))
  f283 := Tryz.func248.trans (congrArg some (by kernel_rfl))
  f284 := Tryz.func249.trans (congrArg some (by kernel_rfl))
  f285 := Tryz.func250.trans (congrArg some (by kernel_rfl))
  f286 := Tryz.func251.trans (congrArg some (by kernel_rfl))
  f317 := Tryz.func268.trans (congrArg some (by kernel_rfl))
  f318 := Tryz.func269.trans (congrArg some (by kernel_rfl))
  f319 := Tryz.func270.trans (congrArg some (by kernel_rfl))
  f320 := Tryz.func271.trans (congrArg some (by kernel_rfl))
  f337 := Tryz.func223.trans (congrArg some (by kernel_rfl))
  f338 := Tryz.func278.trans (congrArg some (by kernel_rfl))
  t0 := Tryz.underlying0
  a0 := Tryz.isAgg0
  z0 := Tryz.sizeOf0
  v0 := Tryz.zeroValue0
  t2 := Tryz.underlying2
  a2 := Tryz.isAgg2
  z2 := Tryz.sizeOf2
  v2 := Tryz.zeroValue2
  t3 := Tryz.underlying3
  a3 := Tryz.isAgg3
  z3 := Tryz.sizeOf3
  v3 := Tryz.zeroValue3
  t4 := Tryz.underlying4
  a4 := Tryz.isAgg4
  z4 := Tryz.sizeOf4
  v4 := Tryz.zeroValue4
  t5 := Tryz.underlying5
  a5 := Tryz.isAgg5
  z5 := Tryz.sizeOf5
  v5 := Tryz.zeroValue5
  t9 := Tryz.underlying9
  a9 := Tryz.isAgg9
  z9 := Tryz.sizeOf9
  v9 := Tryz.zeroValue9
  t20 := Tryz.underlying20
  a20 := Tryz.isAgg20
  z20 := Tryz.sizeOf20
  v20 := Tryz.zeroValue20
  t37 := Tryz.underlying120
  a37 := Tryz.isAgg120
  z37 := Tryz.sizeOf120
  v37 := Tryz.zeroValue120
  t46 := Tryz.underlying225
  a46 := Tryz.isAgg225
  z46 := Tryz.sizeOf225
  v46 := Tryz.zeroValue225
  t51 := Tryz.underlying118
  a51 := Tryz.isAgg118
  z51 := Tryz.sizeOf118
  v51 := Tryz.zeroValue118
  t53 := Tryz.underlying139
  a53 := Tryz.isAgg139
  z53 := Tryz.sizeOf139
  v53 := Tryz.zeroValue139
  t171 := Tryz.underlying273
  a171 := Tryz.isAgg273
  z171 := Tryz.sizeOf273
  v171 := Tryz.zeroValue273
  t173 := Tryz.underlying276
  a173 := Tryz.isAgg276
  z173 := Tryz.sizeOf276
  v173 := Tryz.zeroValue276
  t212 := Tryz.underlying297
  a212 := Tryz.isAgg297
  z212 := Tryz.sizeOf297
  v212 := Tryz.zeroValue297
  t213 := Tryz.underlying298
  a213 := Tryz.isAgg298
  z213 := Tryz.sizeOf298
  t232 := Tryz.underlying278
  a232 := Tryz.isAgg278
  z232 := Tryz.sizeOf278
  v232 := Tryz.zeroValue278
  t233 := Tryz.underlying308
  a233 := Tryz.isAgg308
  z233 := Tryz.sizeOf308
  v233 := Tryz.zeroValue308
  g17 := by kernel_rfl
  g18 := by kernel_rfl
  g19 := by kernel_rfl
  i0 := by kernel_rfl
  i2 := by kernel_rfl
  i3 := by kernel_rfl
  i4 := by kernel_rfl
  i5 := by kernel_rfl
  i9 := by kernel_rfl
  i20 := by kernel_rfl
  i37 := by kernel_rfl
  i46 := by kernel_rfl
  i51 := by kernel_rfl
  i53 := by kernel_rfl
  i171 := by kernel_rfl
  i173 := by kernel_rfl
  i212 := by kernel_rfl
  i232 := by kernel_rfl
  i233 := by kernel_rfl
  m17 := by kernel_rfl
  m18 := by kernel_rfl
  m19 := by kernel_rfl }
open Go.RowKit Go.Sort Go.Lib in
/-- strconv.Itoa: the decimal numeral of every int. -/
theorem Tryz.strconv_Itoa (n : Int) (h0 : -9223372036854775808 ≤ n) (h1 : n ≤ 9223372036854775807) (w : World) (htab : Lib.TabIs Tryz.prog w "internal/strconv.uint64pow10" .u64 Lib.pow10Tab) :
    Calls Tryz.prog 122 #[.int .i64 n] w fun e w' => e = .returned (.string ⟨(Lib.itoa n).toArray⟩) ∧ ∃ k os, w' = grow (w.drewN k) os := Any.strconv_Itoa Tryz.laysM171 n h0 h1 w htab
end Go.Proofs
