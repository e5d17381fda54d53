/- Contracts of the library, laid by the kit at this program. Conditions: none. -/
import Derived.Shelf.Small.Strs
import Derived.Shelf.Small.Wraps
import Derived.Shelf.Strconv.Itoa0
import Derived.Shelf.Strconv.Itoa1
import Derived.Shelf.LaysM
import Derived.Shelf.Strconv.Itoa2
import Derived.Shelf.Strconv.Itoa3
import Derived.Shelf.Strings.Prefix
import Derived.Test.YtfcgdbmoncnibaaGreatDoorProg
namespace Go.Proofs
open Go.Shelf
def Tryz.laysM171_ren : Go.Shelf.Ren := ⟨fun | 171 => 154 | 243 => 161 | 246 => 167 | 283 => 174 | 284 => 175 | 285 => 176 | 286 => 177 | 129 => 182 | 317 => 181 | 318 => 183 | 319 => 184 | 320 => 185 | 337 => 188 | 338 => 189 | n => n, fun | 3 => 3 | 9 => 9 | 2 => 2 | 4 => 4 | 171 => 216 | 0 => 0 | 53 => 217 | 37 => 116 | 5 => 5 | 173 => 220 | 212 => 229 | 51 => 230 | 20 => 20 | 213 => 231 | 46 => 224 | 232 => 238 | 233 => 239 | n => n, fun | 17 => 7 | 18 => 8 | 19 => 9 | n => n⟩
theorem Tryz.laysM171 : Go.Proofs.LaysM.n171 Tryz.prog Tryz.laysM171_ren := {
  mixed := by kernel_rfl
  f129 := Tryz.func182.trans (congrArg some (by kernel_rfl))
  f171 := Tryz.func154.trans (congrArg some (by kernel_rfl))
  f243 := Tryz.func161.trans (congrArg some (by kernel_rfl))
  f246 := Tryz.func167.trans (congrArg some (by kernel_rfl))
  f283 := Tryz.func174.trans (congrArg some (by kernel_rfl))
  f284 := Tryz.func175.trans (congrArg some (by kernel_rfl))
  f285 := Tryz.func176.trans (congrArg some (by kernel_rfl))
  f286 := Tryz.func177.trans (congrArg some (by kernel_rfl))
  f317 := Tryz.func181.trans (congrArg some (by kernel_rfl))
  f318 := Tryz.func183.trans (congrArg some (by kernel_rfl))
  f319 := Tryz.func184.trans (congrArg some (by kernel_rfl))
  f320 := Tryz.func185.trans (congrArg some (by kernel_rfl))
  f337 := Tryz.func188.trans (congrArg some (by kernel_rfl))
  f338 := Tryz.func189.trans (congrArg some (by kernel_rfl))
  t0 := Tryz.underlying0
  a0 := Tryz.isAgg0
  z0 := Tryz.sizeOf0
  v0 := Tryz.zeroValue0
  t2 := Tryz.underlying2
  a2 := Tryz.isAgg2
  z2 := Tryz.sizeOf2
  v2 := Tryz.zeroValue2
  t3 := Tryz.underlying3
  a3 := Tryz.isAgg3
  z3 := Tryz.sizeOf3
  v3 := Tryz.zeroValue3
  t4 := Tryz.underlying4
  a4 := Tryz.isAgg4
  z4 := Tryz.sizeOf4
  v4 := Tryz.zeroValue4
  t5 := Tryz.underlying5
  a5 := Tryz.isAgg5
  z5 := Tryz.sizeOf5
  v5 := Tryz.zeroValue5
  t9 := Tryz.underlying9
  a9 := Tryz.isAgg9
  z9 := Tryz.sizeOf9
  v9 := Tryz.zeroValue9
  t20 := Tryz.underlying20
  a20 := Tryz.isAgg20
  z20 := Tryz.sizeOf20
  v20 := Tryz.zeroValue20
  t37 := Tryz.underlying116
  a37 := Tryz.isAgg116
  z37 := Tryz.sizeOf116
  v37 := Tryz.zeroValue116
  t46 := Tryz.underlying224
  a46 := Tryz.isAgg224
  z46 := Tryz.sizeOf224
  v46 := Tryz.zeroValue224
  t51 := Tryz.underlying230
  a51 := Tryz.isAgg230
  z51 := Tryz.sizeOf230
  v51 := Tryz.zeroValue230
  t53 := Tryz.underlying217
  a53 := Tryz.isAgg217
  z53 := Tryz.sizeOf217
  v53 := Tryz.zeroValue217
  t171 := Tryz.underlying216
  a171 := Tryz.isAgg216
  z171 := Tryz.sizeOf216
  v171 := Tryz.zeroValue216
  t173 := Tryz.underlying220
  a173 := Tryz.isAgg220
  z173 := Tryz.sizeOf220
  v173 := Tryz.zeroValue220
  t212 := Tryz.underlying229
  a212 := Tryz.isAgg229
  z212 := Tryz.sizeOf229
  v212 := Tryz.zeroValue229
  t213 := Tryz.underlying231
  a213 := Tryz.isAgg231
  z213 := Tryz.sizeOf231
  t232 := Tryz.underlying238
  a232 := Tryz.isAgg238
  z232 := Tryz.sizeOf238
  v232 := Tryz.zeroValue238
  t233 := Tryz.underlying239
  a233 := Tryz.isAgg239
  z233 := Tryz.sizeOf239
  v233 := Tryz.zeroValue239
  g17 := by kernel_rfl
  g18 := by kernel_rfl
  g19 := by kernel_rfl
  i0 := by kernel_rfl
  i2 := by kernel_rfl
  i3 := by kernel_rfl
  i4 := by kernel_rfl
  i5 := by kernel_rfl
  i9 := by kernel_rfl
  i20 := by kernel_rfl
  i37 := by kernel_rfl
  i46 := by kernel_rfl
  i51 := by kernel_rfl
  i53 := by kernel_rfl
  i171 := by kernel_rfl
  i173 := by kernel_rfl
  i212 := by kernel_rfl
  i232 := by kernel_rfl
  i233 := by kernel_rfl
  m17 := by kernel_rfl
  m18 := by kernel_rfl
  m19 := by kernel_rfl }
open Go.RowKit Go.Sort Go.Lib in
theorem Tryz.strconv_Itoa (n : Int) (h0 : -9223372036854775808 ≤ n) (h1 : n ≤ 9223372036854775807) (w : World) (htab : Lib.TabIs Tryz.prog w "internal/strconv.uint64pow10" .u64 Lib.pow10Tab) :
    Calls Tryz.prog 154 #[.int .i64 n] w fun e w' => e = .returned (.string ⟨(Lib.itoa n).toArray⟩) ∧ ∃ k os, w' = grow (w.drewN k) os := Any.strconv_Itoa Tryz.laysM171 n h0 h1 w htab
end Go.Proofs
