/- strconv.Itoa hands back the decimal text of every int (the kit's contract, laid at this program). -/
import Derived.Shelf.Strconv.Itoa0
import Derived.Shelf.Strconv.Itoa1
import Derived.Shelf.LaysM
import Derived.Shelf.Strconv.Itoa2
import Derived.Shelf.Strconv.Itoa3
import Derived.Test.YtmblpmegfmgjgaaGreatDoorProg
namespace Go.Proofs
open Go.Shelf
def Tryz.laysM171_ren : Go.Shelf.Ren := ⟨fun | 171 => 271 | 243 => 321 | 246 => 348 | 283 => 356 | 284 => 357 | 285 => 358 | 286 => 359 | 129 => 306 | 317 => 360 | 318 => 361 | 319 => 362 | 320 => 363 | 337 => 289 | 338 => 364 | n => n, fun | 3 => 3 | 9 => 9 | 2 => 2 | 4 => 4 | 171 => 323 | 0 => 0 | 53 => 100 | 37 => 197 | 5 => 5 | 173 => 325 | 212 => 327 | 51 => 88 | 20 => 20 | 213 => 328 | 46 => 225 | 232 => 293 | 233 => 329 | n => n, fun | 17 => 4 | 18 => 0 | 19 => 5 | n => n⟩
theorem Tryz.laysM171 : Go.Proofs.LaysM.n171 Tryz.prog Tryz.laysM171_ren := {
  mixed := by kernel_rfl
  f129 := Tryz.func306.trans (congrArg some (by kernel_rfl))
  f171 := Tryz.func271.trans (congrArg some (by kernel_rfl))
  f243 := Tryz.func321.trans (congrArg some (by kernel_rfl))
  f246 := Tryz.func348.trans (congrArg some (by kernel_rfl))
  f283 := Tryz.func356.trans (congrArg some (by kernel_rfl))
  f284 := Tryz.func357.trans (congrArg some (by kernel_rfl))
  f285 := Tryz.func358.trans (congrArg some (by kernel_rfl))
  f286 := Tryz.func359.trans (congrArg some (by kernel_rfl))
  f317 := Tryz.func360.trans (congrArg some (by kernel_rfl))
  f318 := Tryz.func361.trans (congrArg some (by kernel_rfl))
  f319 := Tryz.func362.trans (congrArg some (by kernel_rfl))
  f320 := Tryz.func363.trans (congrArg some (by kernel_rfl))
  f337 := Tryz.func289.trans (congrArg some (by kernel_rfl))
  f338 := Tryz.func364.trans (congrArg some (by kernel_rfl))
  t0 := Tryz.underlying0
  a0 := Tryz.isAgg0
  z0 := Tryz.sizeOf0
  v0 := Tryz.zeroValue0
  t2 := Tryz.underlying2
  a2 := Tryz.isAgg2
  z2 := Tryz.sizeOf2
  v2 := Tryz.zeroValue2
  t3 := Tryz.underlying3
  a3 := Tryz.isAgg3
  z3 := Tryz.sizeOf3
  v3 := Tryz.zeroValue3
  t4 := Tryz.underlying4
  a4 := Tryz.isAgg4
  z4 := Tryz.sizeOf4
  v4 := Tryz.zeroValue4
  t5 := Tryz.underlying5
  a5 := Tryz.isAgg5
  z5 := Tryz.sizeOf5
  v5 := Tryz.zeroValue5
  t9 := Tryz.underlying9
  a9 := Tryz.isAgg9
  z9 := Tryz.sizeOf9
  v9 := Tryz.zeroValue9
  t20 := Tryz.underlying20
  a20 := Tryz.isAgg20
  z20 := Tryz.sizeOf20
  v20 := Tryz.zeroValue20
  t37 := Tryz.underlying197
  a37 := Tryz.isAgg197
  z37 := Tryz.sizeOf197
  v37 := Tryz.zeroValue197
  t46 := Tryz.underlying225
  a46 := Tryz.isAgg225
  z46 := Tryz.sizeOf225
  v46 := Tryz.zeroValue225
  t51 := Tryz.underlying88
  a51 := Tryz.isAgg88
  z51 := Tryz.sizeOf88
  v51 := Tryz.zeroValue88
  t53 := Tryz.underlying100
  a53 := Tryz.isAgg100
  z53 := Tryz.sizeOf100
  v53 := Tryz.zeroValue100
  t171 := Tryz.underlying323
  a171 := Tryz.isAgg323
  z171 := Tryz.sizeOf323
  v171 := Tryz.zeroValue323
  t173 := Tryz.underlying325
  a173 := Tryz.isAgg325
  z173 := Tryz.sizeOf325
  v173 := Tryz.zeroValue325
  t212 := Tryz.underlying327
  a212 := Tryz.isAgg327
  z212 := Tryz.sizeOf327
  v212 := Tryz.zeroValue327
  t213 := Tryz.underlying328
  a213 := Tryz.isAgg328
  z213 := Tryz.sizeOf328
  t232 := Tryz.underlying293
  a232 := Tryz.isAgg293
  z232 := Tryz.sizeOf293
  v232 := Tryz.zeroValue293
  t233 := Tryz.underlying329
  a233 := Tryz.isAgg329
  z233 := Tryz.sizeOf329
  v233 := Tryz.zeroValue329
  g17 := by kernel_rfl
  g18 := by kernel_rfl
  g19 := by kernel_rfl
  i0 := by kernel_rfl
  i2 := by kernel_rfl
  i3 := by kernel_rfl
  i4 := by kernel_rfl
  i5 := by kernel_rfl
  i9 := by kernel_rfl
  i20 := by kernel_rfl
  i37 := by kernel_rfl
  i46 := by kernel_rfl
  i51 := by kernel_rfl
  i53 := by kernel_rfl
  i171 := by kernel_rfl
  i173 := by kernel_rfl
  i212 := by kernel_rfl
  i232 := by kernel_rfl
  i233 := by kernel_rfl
  m17 := by kernel_rfl
  m18 := by kernel_rfl
  m19 := by kernel_rfl }
open Go.RowKit Go.Sort Go.Lib in
/-- strconv.Itoa: the decimal numeral of every int. -/
theorem Tryz.strconv_Itoa (n : Int) (h0 : -9223372036854775808 ≤ n) (h1 : n ≤ 9223372036854775807) (w : World) (htab : Lib.TabIs Tryz.prog w "internal/strconv.uint64pow10" .u64 Lib.pow10Tab) :
    Calls Tryz.prog 271 #[.int .i64 n] w fun e w' => e = .returned (.string ⟨(Lib.itoa n).toArray⟩) ∧ ∃ k os, w' = grow (w.drewN k) os := Any.strconv_Itoa Tryz.laysM171 n h0 h1 w htab
end Go.Proofs
