/- strconv.Itoa hands back the decimal text of every int (the kit's contract, laid at this program). -/
import Derived.Shelf.Strconv.Itoa0
import Derived.Shelf.Strconv.Itoa1
import Derived.Shelf.LaysM
import Derived.Shelf.Strconv.Itoa2
import Derived.Shelf.Strconv.Itoa3
import Derived.Test.YtblecjeceecaaaaGreatDoorProg
namespace Go.Proofs
open Go.Shelf
def Tryz.laysM171_ren : Go.Shelf.Ren := ⟨fun | 171 => 208 | 243 => 272 | 246 => 317 | 283 => 341 | 284 => 342 | 285 => 343 | 286 => 344 | 129 => 360 | 317 => 364 | 318 => 365 | 319 => 366 | 320 => 367 | 337 => 274 | 338 => 375 | n => n, fun | 3 => 3 | 9 => 9 | 2 => 2 | 4 => 4 | 171 => 336 | 0 => 0 | 53 => 107 | 37 => 173 | 5 => 5 | 173 => 339 | 212 => 360 | 51 => 153 | 20 => 20 | 213 => 361 | 46 => 222 | 232 => 321 | 233 => 371 | n => n, fun | 17 => 4 | 18 => 0 | 19 => 5 | n => n⟩
theorem Tryz.laysM171 : Go.Proofs.LaysM.n171 Tryz.prog Tryz.laysM171_ren := {
  mixed := by kernel_rfl
  f129 := Tryz.func360.trans (congrArg some (by kernel_rfl))
  f171 := Tryz.func208.trans (congrArg some (by kernel_rfl))
  f243 := Tryz.func272.trans (congrArg some (by kernel_rfl))
  f246 := Tryz.func317.trans (congrArg some (by kernel_rfl))
  f283 := Tryz.func341.trans (congrArg some (by kernel_rfl))
  f284 := Tryz.func342.trans (congrArg some (by kernel_rfl))
  f285 := Tryz.func343.trans (congrArg some (by kernel_rfl))
  f286 := Tryz.func344.trans (congrArg some (by kernel_rfl))
  f317 := Tryz.func364.trans (congrArg some (by kernel_rfl))
  f318 := Tryz.func365.trans (congrArg some (by kernel_rfl))
  f319 := Tryz.func366.trans (congrArg some (by kernel_rfl))
  f320 := Tryz.func367.trans (congrArg some (by kernel_rfl))
  f337 := Tryz.func274.trans (congrArg some (by kernel_rfl))
  f338 := Tryz.func375.trans (congrArg some (by kernel_rfl))
  t0 := Tryz.underlying0
  a0 := Tryz.isAgg0
  z0 := Tryz.sizeOf0
  v0 := Tryz.zeroValue0
  t2 := Tryz.underlying2
  a2 := Tryz.isAgg2
  z2 := Tryz.sizeOf2
  v2 := Tryz.zeroValue2
  t3 := Tryz.underlying3
  a3 := Tryz.isAgg3
  z3 := Tryz.sizeOf3
  v3 := Tryz.zeroValue3
  t4 := Tryz.underlying4
  a4 := Tryz.isAgg4
  z4 := Tryz.sizeOf4
  v4 := Tryz.zeroValue4
  t5 := Tryz.underlying5
  a5 := Tryz.isAgg5
  z5 := Tryz.sizeOf5
  v5 := Tryz.zeroValue5
  t9 := Tryz.underlying9
  a9 := Tryz.isAgg9
  z9 := Tryz.sizeOf9
  v9 := Tryz.zeroValue9
  t20 := Tryz.underlying20
  a20 := Tryz.isAgg20
  z20 := Tryz.sizeOf20
  v20 := Tryz.zeroValue20
  t37 := Tryz.underlying173
  a37 := Tryz.isAgg173
  z37 := Tryz.sizeOf173
  v37 := Tryz.zeroValue173
  t46 := Tryz.underlying222
  a46 := Tryz.isAgg222
  z46 := Tryz.sizeOf222
  v46 := Tryz.zeroValue222
  t51 := Tryz.underlying153
  a51 := Tryz.isAgg153
  z51 := Tryz.sizeOf153
  v51 := Tryz.zeroValue153
  t53 := Tryz.underlying107
  a53 := Tryz.isAgg107
  z53 := Tryz.sizeOf107
  v53 := Tryz.zeroValue107
  t171 := Tryz.underlying336
  a171 := Tryz.isAgg336
  z171 := Tryz.sizeOf336
  v171 := Tryz.zeroValue336
  t173 := Tryz.underlying339
  a173 := Tryz.isAgg339
  z173 := Tryz.sizeOf339
  v173 := Tryz.zeroValue339
  t212 := Tryz.underlying360
  a212 := Tryz.isAgg360
  z212 := Tryz.sizeOf360
  v212 := Tryz.zeroValue360
  t213 := Tryz.underlying361
  a213 := Tryz.isAgg361
  z213 := Tryz.sizeOf361
  t232 := Tryz.underlying321
  a232 := Tryz.isAgg321
  z232 := Tryz.sizeOf321
  v232 := Tryz.zeroValue321
  t233 := Tryz.underlying371
  a233 := Tryz.isAgg371
  z233 := Tryz.sizeOf371
  v233 := Tryz.zeroValue371
  g17 := by kernel_rfl
  g18 := by kernel_rfl
  g19 := by kernel_rfl
  i0 := by kernel_rfl
  i2 := by kernel_rfl
  i3 := by kernel_rfl
  i4 := by kernel_rfl
  i5 := by kernel_rfl
  i9 := by kernel_rfl
  i20 := by kernel_rfl
  i37 := by kernel_rfl
  i46 := by kernel_rfl
  i51 := by kernel_rfl
  i53 := by kernel_rfl
  i171 := by kernel_rfl
  i173 := by kernel_rfl
  i212 := by kernel_rfl
  i232 := by kernel_rfl
  i233 := by kernel_rfl
  m17 := by kernel_rfl
  m18 := by kernel_rfl
  m19 := by kernel_rfl }
open Go.RowKit Go.Sort Go.Lib in
/-- strconv.Itoa: the decimal numeral of every int. -/
theorem Tryz.strconv_Itoa (n : Int) (h0 : -9223372036854775808 ≤ n) (h1 : n ≤ 9223372036854775807) (w : World) (htab : Lib.TabIs Tryz.prog w "internal/strconv.uint64pow10" .u64 Lib.pow10Tab) :
    Calls Tryz.prog 208 #[.int .i64 n] w fun e w' => e = .returned (.string ⟨(Lib.itoa n).toArray⟩) ∧ ∃ k os, w' = grow (w.drewN k) os := Any.strconv_Itoa Tryz.laysM171 n h0 h1 w htab
end Go.Proofs
