/- strconv.Itoa hands back the decimal text of every int (the kit's contract, laid at this program). -/
import Derived.Shelf.Strconv.Itoa0
import Derived.Shelf.Strconv.Itoa1
import Derived.Shelf.LaysM
import Derived.Shelf.Strconv.Itoa2
import Derived.Shelf.Strconv.Itoa3
import Derived.Test.YtbgicephinomlaaGreatDoorProg
namespace Go.Proofs
open Go.Shelf
def Tryz.laysM171_ren : Go.Shelf.Ren := ⟨fun | 171 => 192 | 243 => 241 | 246 => 273 | 283 => 281 | 284 => 282 | 285 => 283 | 286 => 284 | 129 => 217 | 317 => 285 | 318 => 286 | 319 => 287 | 320 => 288 | 337 => 266 | 338 => 289 | n => n, fun | 3 => 3 | 9 => 9 | 2 => 2 | 4 => 4 | 171 => 275 | 0 => 0 | 53 => 68 | 37 => 157 | 5 => 5 | 173 => 277 | 212 => 280 | 51 => 104 | 20 => 20 | 213 => 281 | 46 => 164 | 232 => 274 | 233 => 282 | n => n, fun | 17 => 4 | 18 => 3 | 19 => 5 | n => n⟩
theorem Tryz.laysM171 : Go.Proofs.LaysM.n171 Tryz.prog Tryz.laysM171_ren := {
  mixed := by kernel_rfl
  f129 := Tryz.func217.trans (congrArg some (by kernel_rfl))
  f171 := Tryz.func192.trans (congrArg some (by kernel_rfl))
  f243 := Tryz.func241.trans (congrArg some (by kernel_rfl))
  f246 := Tryz.func273.trans (congrArg some (by kernel_rfl))
  f283 := Tryz.func281.trans (congrArg some (by kernel_rfl))
  f284 := Tryz.func282.trans (congrArg some (by kernel_rfl))
  f285 := Tryz.func283.trans (congrArg some (by kernel_rfl))
  f286 := Tryz.func284.trans (congrArg some (by kernel_rfl))
  f317 := Tryz.func285.trans (congrArg some (by kernel_rfl))
  f318 := Tryz.func286.trans (congrArg some (by kernel_rfl))
  f319 := Tryz.func287.trans (congrArg some (by kernel_rfl))
  f320 := Tryz.func288.trans (congrArg some (by kernel_rfl))
  f337 := Tryz.func266.trans (congrArg some (by kernel_rfl))
  f338 := Tryz.func289.trans (congrArg some (by kernel_rfl))
  t0 := Tryz.underlying0
  a0 := Tryz.isAgg0
  z0 := Tryz.sizeOf0
  v0 := Tryz.zeroValue0
  t2 := Tryz.underlying2
  a2 := Tryz.isAgg2
  z2 := Tryz.sizeOf2
  v2 := Tryz.zeroValue2
  t3 := Tryz.underlying3
  a3 := Tryz.isAgg3
  z3 := Tryz.sizeOf3
  v3 := Tryz.zeroValue3
  t4 := Tryz.underlying4
  a4 := Tryz.isAgg4
  z4 := Tryz.sizeOf4
  v4 := Tryz.zeroValue4
  t5 := Tryz.underlying5
  a5 := Tryz.isAgg5
  z5 := Tryz.sizeOf5
  v5 := Tryz.zeroValue5
  t9 := Tryz.underlying9
  a9 := Tryz.isAgg9
  z9 := Tryz.sizeOf9
  v9 := Tryz.zeroValue9
  t20 := Tryz.underlying20
  a20 := Tryz.isAgg20
  z20 := Tryz.sizeOf20
  v20 := Tryz.zeroValue20
  t37 := Tryz.underlying157
  a37 := Tryz.isAgg157
  z37 := Tryz.sizeOf157
  v37 := Tryz.zeroValue157
  t46 := Tryz.underlying164
  a46 := Tryz.isAgg164
  z46 := Tryz.sizeOf164
  v46 := Tryz.zeroValue164
  t51 := Tryz.underlying104
  a51 := Tryz.isAgg104
  z51 := Tryz.sizeOf104
  v51 := Tryz.zeroValue104
  t53 := Tryz.underlying68
  a53 := Tryz.isAgg68
  z53 := Tryz.sizeOf68
  v53 := Tryz.zeroValue68
  t171 := Tryz.underlying275
  a171 := Tryz.isAgg275
  z171 := Tryz.sizeOf275
  v171 := Tryz.zeroValue275
  t173 := Tryz.underlying277
  a173 := Tryz.isAgg277
  z173 := Tryz.sizeOf277
  v173 := Tryz.zeroValue277
  t212 := Tryz.underlying280
  a212 := Tryz.isAgg280
  z212 := Tryz.sizeOf280
  v212 := Tryz.zeroValue280
  t213 := Tryz.underlying281
  a213 := Tryz.isAgg281
  z213 := Tryz.sizeOf281
  t232 := Tryz.underlying274
  a232 := Tryz.isAgg274
  z232 := Tryz.sizeOf274
  v232 := Tryz.zeroValue274
  t233 := Tryz.underlying282
  a233 := Tryz.isAgg282
  z233 := Tryz.sizeOf282
  v233 := Tryz.zeroValue282
  g17 := by kernel_rfl
  g18 := by kernel_rfl
  g19 := by kernel_rfl
  i0 := by kernel_rfl
  i2 := by kernel_rfl
  i3 := by kernel_rfl
  i4 := by kernel_rfl
  i5 := by kernel_rfl
  i9 := by kernel_rfl
  i20 := by kernel_rfl
  i37 := by kernel_rfl
  i46 := by kernel_rfl
  i51 := by kernel_rfl
  i53 := by kernel_rfl
  i171 := by kernel_rfl
  i173 := by kernel_rfl
  i212 := by kernel_rfl
  i232 := by kernel_rfl
  i233 := by kernel_rfl
  m17 := by kernel_rfl
  m18 := by kernel_rfl
  m19 := by kernel_rfl }
open Go.RowKit Go.Sort Go.Lib in
/-- strconv.Itoa: the decimal numeral of every int. -/
theorem Tryz.strconv_Itoa (n : Int) (h0 : -9223372036854775808 ≤ n) (h1 : n ≤ 9223372036854775807) (w : World) (htab : Lib.TabIs Tryz.prog w "internal/strconv.uint64pow10" .u64 Lib.pow10Tab) :
    Calls Tryz.prog 192 #[.int .i64 n] w fun e w' => e = .returned (.string ⟨(Lib.itoa n).toArray⟩) ∧ ∃ k os, w' = grow (w.drewN k) os := Any.strconv_Itoa Tryz.laysM171 n h0 h1 w htab
end Go.Proofs
