/- Contracts of the library, laid by the kit at this program. Conditions: none. -/
import Derived.Shelf.Small.Bits
import Derived.Shelf.Small.Strs
import Derived.Shelf.Small.Wraps
import Derived.Shelf.Strconv.Itoa0
import Derived.Shelf.Strconv.Itoa1
import Derived.Shelf.LaysM
import Derived.Shelf.Strconv.Itoa2
import Derived.Shelf.Strconv.Itoa3
import Derived.Shelf.Strings.Prefix
import Derived.Test.YtjbocjodncbogaaGreatDoorProg
namespace Go.Proofs
open Go.Shelf
def Tryz.laysM171_ren : Go.Shelf.Ren := ⟨fun | 171 => 198 | 243 => 285 | 246 => 322 | 283 => 334 | 284 => 335 | 285 => 336 | 286 => 337 | 129 => 347 | 317 => 352 | 318 => 353 | 319 => 354 | 320 => 355 | 337 => 362 | 338 => 363 | n => n, fun | 3 => 3 | 9 => 9 | 2 => 2 | 4 => 4 | 171 => 328 | 0 => 0 | 53 => 322 | 37 => 135 | 5 => 5 | 173 => 331 | 212 => 347 | 51 => 341 | 20 => 20 | 213 => 348 | 46 => 319 | 232 => 357 | 233 => 358 | n => n, fun | 17 => 6 | 18 => 8 | 19 => 9 | n => n⟩
theorem Tryz.laysM171 : Go.Proofs.LaysM.n171 Tryz.prog Tryz.laysM171_ren := {
  mixed := by kernel_rfl
  f129 := Tryz.func347.trans (congrArg some (by kernel_rfl))
  f171 := Tryz.func198.trans (congrArg some (by kernel_rfl))
  f243 := Tryz.func285.trans (congrArg some (by kernel_rfl))
  f246 := Tryz.func322.trans (congrArg some (by kernel_rfl))
  f283 := Tryz.func334.trans (congrArg some (by kernel_rfl))
  f284 := Tryz.func335.trans (congrArg some (by kernel_rfl))
  f285 := Tryz.func336.trans (congrArg some (by kernel_rfl))
  f286 := Tryz.func337.trans (congrArg some (by kernel_rfl))
  f317 := Tryz.func352.trans (congrArg some (by kernel_rfl))
  f318 := Tryz.func353.trans (congrArg some (by kernel_rfl))
  f319 := Tryz.func354.trans (congrArg some (by kernel_rfl))
  f320 := Tryz.func355.trans (congrArg some (by kernel_rfl))
  f337 := Tryz.func362.trans (congrArg some (by kernel_rfl))
  f338 := Tryz.func363.trans (congrArg some (by kernel_rfl))
  t0 := Tryz.underlying0
  a0 := Tryz.isAgg0
  z0 := Tryz.sizeOf0
  v0 := Tryz.zeroValue0
  t2 := Tryz.underlying2
  a2 := Tryz.isAgg2
  z2 := Tryz.sizeOf2
  v2 := Tryz.zeroValue2
  t3 := Tryz.underlying3
  a3 := Tryz.isAgg3
  z3 := Tryz.sizeOf3
  v3 := Tryz.zeroValue3
  t4 := Tryz.underlying4
  a4 := Tryz.isAgg4
  z4 := Tryz.sizeOf4
  v4 := Tryz.zeroValue4
  t5 := Tryz.underlying5
  a5 := Tryz.isAgg5
  z5 := Tryz.sizeOf5
  v5 := Tryz.zeroValue5
  t9 := Tryz.underlying9
  a9 := Tryz.isAgg9
  z9 := Tryz.sizeOf9
  v9 := Tryz.zeroValue9
  t20 := Tryz.underlying20
  a20 := Tryz.isAgg20
  z20 := Tryz.sizeOf20
  v20 := Tryz.zeroValue20
  t37 := Tryz.underlying135
  a37 := Tryz.isAgg135
  z37 := Tryz.sizeOf135
  v37 := Tryz.zeroValue135
  t46 := Tryz.underlying319
  a46 := Tryz.isAgg319
  z46 := Tryz.sizeOf319
  v46 := Tryz.zeroValue319
  t51 := Tryz.underlying341
  a51 := Tryz.isAgg341
  z51 := Tryz.sizeOf341
  v51 := Tryz.zeroValue341
  t53 := Tryz.underlying322
  a53 := Tryz.isAgg322
  z53 := Tryz.sizeOf322
  v53 := Tryz.zeroValue322
  t171 := Tryz.underlying328
  a171 := Tryz.isAgg328
  z171 := Tryz.sizeOf328
  v171 := Tryz.zeroValue328
  t173 := Tryz.underlying331
  a173 := Tryz.isAgg331
  z173 := Tryz.sizeOf331
  v173 := Tryz.zeroValue331
  t212 := Tryz.underlying347
  a212 := Tryz.isAgg347
  z212 := Tryz.sizeOf347
  v212 := Tryz.zeroValue347
  t213 := Tryz.underlying348
  a213 := Tryz.isAgg348
  z213 := Tryz.sizeOf348
  t232 := Tryz.underlying357
  a232 := Tryz.isAgg357
  z232 := Tryz.sizeOf357
  v232 := Tryz.zeroValue357
  t233 := Tryz.underlying358
  a233 := Tryz.isAgg358
  z233 := Tryz.sizeOf358
  v233 := Tryz.zeroValue358
  g17 := by kernel_rfl
  g18 := by kernel_rfl
  g19 := by kernel_rfl
  i0 := by kernel_rfl
  i2 := by kernel_rfl
  i3 := by kernel_rfl
  i4 := by kernel_rfl
  i5 := by kernel_rfl
  i9 := by kernel_rfl
  i20 := by kernel_rfl
  i37 := by kernel_rfl
  i46 := by kernel_rfl
  i51 := by kernel_rfl
  i53 := by kernel_rfl
  i171 := by kernel_rfl
  i173 := by kernel_rfl
  i212 := by kernel_rfl
  i232 := by kernel_rfl
  i233 := by kernel_rfl
  m17 := by kernel_rfl
  m18 := by kernel_rfl
  m19 := by kernel_rfl }
open Go.RowKit Go.Sort Go.Lib in
theorem Tryz.strconv_Itoa (n : Int) (h0 : -9223372036854775808 ≤ n) (h1 : n ≤ 9223372036854775807) (w : World) (htab : Lib.TabIs Tryz.prog w "internal/strconv.uint64pow10" .u64 Lib.pow10Tab) :
    Calls Tryz.prog 198 #[.int .i64 n] w fun e w' => e = .returned (.string ⟨(Lib.itoa n).toArray⟩) ∧ ∃ k os, w' = grow (w.drewN k) os := Any.strconv_Itoa Tryz.laysM171 n h0 h1 w htab
end Go.Proofs
