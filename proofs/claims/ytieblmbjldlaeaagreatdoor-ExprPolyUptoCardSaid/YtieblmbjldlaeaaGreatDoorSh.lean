/- strconv.Itoa hands back the decimal text of every int (the kit's contract, laid at this program). -/
import Derived.Shelf.Strconv.Itoa0
import Derived.Shelf.Strconv.Itoa1
import Derived.Shelf.LaysM
import Derived.Shelf.Strconv.Itoa2
import Derived.Shelf.Strconv.Itoa3
import Derived.Test.YtieblmbjldlaeaaGreatDoorProg
namespace Go.Proofs
open Go.Shelf
def Tryz.laysM171_ren : Go.Shelf.Ren := ⟨fun | 171 => 157 | 243 => 194 | 246 => 226 | 283 => 243 | 284 => 244 | 285 => 245 | 286 => 246 | 129 => 238 | 317 => 253 | 318 => 254 | 319 => 255 | 320 => 256 | 337 => 197 | 338 => 259 | n => n, fun | 3 => 3 | 9 => 9 | 2 => 2 | 4 => 4 | 171 => 263 | 0 => 0 | 53 => 107 | 37 => 149 | 5 => 5 | 173 => 265 | 212 => 274 | 51 => 74 | 20 => 20 | 213 => 275 | 46 => 200 | 232 => 243 | 233 => 279 | n => n, fun | 17 => 4 | 18 => 1 | 19 => 5 | n => n⟩
theorem Tryz.laysM171 : Go.Proofs.LaysM.n171 Tryz.prog Tryz.laysM171_ren := {
  mixed := by kernel_rfl
  f129 := Tryz.func238.trans (congrArg some (by kernel_rfl))
  f171 := Tryz.func157.trans (congrArg some (by kernel_rfl))
  f243 := Tryz.func194.trans (congrArg some (by kernel_rfl))
  f246 := Tryz.func226.trans (congrArg some (by kernel_rfl))
  f283 := Tryz.func243.trans (congrArg some (by kernel_rfl))
  f284 := Tryz.func244.trans (congrArg some (by kernel_rfl))
  f285 := Tryz.func245.trans (congrArg some (by kernel_rfl))
  f286 := Tryz.func246.trans (congrArg some (by kernel_rfl))
  f317 := Tryz.func253.trans (congrArg some (by kernel_rfl))
  f318 := Tryz.func254.trans (congrArg some (by kernel_rfl))
  f319 := Tryz.func255.trans (congrArg some (by kernel_rfl))
  f320 := Tryz.func256.trans (congrArg some (by kernel_rfl))
  f337 := Tryz.func197.trans (congrArg some (by kernel_rfl))
  f338 := Tryz.func259.trans (congrArg some (by kernel_rfl))
  t0 := Tryz.underlying0
  a0 := Tryz.isAgg0
  z0 := Tryz.sizeOf0
  v0 := Tryz.zeroValue0
  t2 := Tryz.underlying2
  a2 := Tryz.isAgg2
  z2 := Tryz.sizeOf2
  v2 := Tryz.zeroValue2
  t3 := Tryz.underlying3
  a3 := Tryz.isAgg3
  z3 := Tryz.sizeOf3
  v3 := Tryz.zeroValue3
  t4 := Tryz.underlying4
  a4 := Tryz.isAgg4
  z4 := Tryz.sizeOf4
  v4 := Tryz.zeroValue4
  t5 := Tryz.underlying5
  a5 := Tryz.isAgg5
  z5 := Tryz.sizeOf5
  v5 := Tryz.zeroValue5
  t9 := Tryz.underlying9
  a9 := Tryz.isAgg9
  z9 := Tryz.sizeOf9
  v9 := Tryz.zeroValue9
  t20 := Tryz.underlying20
  a20 := Tryz.isAgg20
  z20 := Tryz.sizeOf20
  v20 := Tryz.zeroValue20
  t37 := Tryz.underlying149
  a37 := Tryz.isAgg149
  z37 := Tryz.sizeOf149
  v37 := Tryz.zeroValue149
  t46 := Tryz.underlying200
  a46 := Tryz.isAgg200
  z46 := Tryz.sizeOf200
  v46 := Tryz.zeroValue200
  t51 := Tryz.underlying74
  a51 := Tryz.isAgg74
  z51 := Tryz.sizeOf74
  v51 := Tryz.zeroValue74
  t53 := Tryz.underlying107
  a53 := Tryz.isAgg107
  z53 := Tryz.sizeOf107
  v53 := Tryz.zeroValue107
  t171 := Tryz.underlying263
  a171 := Tryz.isAgg263
  z171 := Tryz.sizeOf263
  v171 := Tryz.zeroValue263
  t173 := Tryz.underlying265
  a173 := Tryz.isAgg265
  z173 := Tryz.sizeOf265
  v173 := Tryz.zeroValue265
  t212 := Tryz.underlying274
  a212 := Tryz.isAgg274
  z212 := Tryz.sizeOf274
  v212 := Tryz.zeroValue274
  t213 := Tryz.underlying275
  a213 := Tryz.isAgg275
  z213 := Tryz.sizeOf275
  t232 := Tryz.underlying243
  a232 := Tryz.isAgg243
  z232 := Tryz.sizeOf243
  v232 := Tryz.zeroValue243
  t233 := Tryz.underlying279
  a233 := Tryz.isAgg279
  z233 := Tryz.sizeOf279
  v233 := Tryz.zeroValue279
  g17 := by kernel_rfl
  g18 := by kernel_rfl
  g19 := by kernel_rfl
  i0 := by kernel_rfl
  i2 := by kernel_rfl
  i3 := by kernel_rfl
  i4 := by kernel_rfl
  i5 := by kernel_rfl
  i9 := by kernel_rfl
  i20 := by kernel_rfl
  i37 := by kernel_rfl
  i46 := by kernel_rfl
  i51 := by kernel_rfl
  i53 := by kernel_rfl
  i171 := by kernel_rfl
  i173 := by kernel_rfl
  i212 := by kernel_rfl
  i232 := by kernel_rfl
  i233 := by kernel_rfl
  m17 := by kernel_rfl
  m18 := by kernel_rfl
  m19 := by kernel_rfl }
open Go.RowKit Go.Sort Go.Lib in
/-- strconv.Itoa: the decimal numeral of every int. -/
theorem Tryz.strconv_Itoa (n : Int) (h0 : -9223372036854775808 ≤ n) (h1 : n ≤ 9223372036854775807) (w : World) (htab : Lib.TabIs Tryz.prog w "internal/strconv.uint64pow10" .u64 Lib.pow10Tab) :
    Calls Tryz.prog 157 #[.int .i64 n] w fun e w' => e = .returned (.string ⟨(Lib.itoa n).toArray⟩) ∧ ∃ k os, w' = grow (w.drewN k) os := Any.strconv_Itoa Tryz.laysM171 n h0 h1 w htab
end Go.Proofs
