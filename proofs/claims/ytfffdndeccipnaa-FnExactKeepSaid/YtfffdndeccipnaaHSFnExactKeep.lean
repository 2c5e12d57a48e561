/- A library function at this program: printed by the kit's shelf tools. -/
import Derived.Shelf.Small.Strs
import Derived.Shelf.SlGeneric
import Derived.Shelf.SlSortCmp.WholeK
import Derived.Shelf.SlSortCmp.NoneTotal
import Derived.Ground.SlsfProg
import Derived.Test.YtfffdndeccipnaaProg
namespace Go.Proofs
open Go.Shelf
def Try.lays106_ren : Go.Shelf.Ren := ⟨fun | 106 => 159 | 213 => 209 | 265 => 247 | n => n, fun | 9 => 9 | 3 => 3 | n => n, fun | n => n⟩
theorem Try.lays106 : Go.Proofs.Lays.n106 Try.prog Try.lays106_ren := {
  mixed := by kernel_rfl
  f106 := Try.func159.trans (congrArg some (by kernel_rfl))
  f213 := Try.func209.trans (congrArg some (by kernel_rfl))
  f265 := Try.func247.trans (congrArg some (by kernel_rfl))
  t3 := Try.underlying3
  a3 := Try.isAgg3
  z3 := Try.sizeOf3
  v3 := Try.zeroValue3
  t9 := Try.underlying9
  a9 := Try.isAgg9
  z9 := Try.sizeOf9
  v9 := Try.zeroValue9 }
open Go.RowKit in
/-- strings.Compare: "Compare returns an integer comparing two strings lexicographically. The result will be 0 if a == b, -1 if a < b, and +1 if a > b.": IT RETURNS 'Lib.compareBytes a b'; the world is as it was. (LAID: no walk: one application.) -/
theorem Try.strings_Compare (a b : ByteArray) (w : World) :
    Calls Try.prog 159 #[.string a, .string b] w fun e w' => e = .returned (.int .i64 (Lib.compareBytes a.data.toList b.data.toList)) ∧ w' = w := Any.strings_Compare Try.lays106 a b w

def Try.laysSF_ren : Go.Shelf.Ren := ⟨fun | 6 => 216 | 15 => 252 | 14 => 251 | 28 => 277 | 29 => 278 | 20 => 269 | 21 => 270 | 22 => 271 | 23 => 272 | 24 => 273 | 25 => 274 | 26 => 275 | 27 => 276 | 46 => 290 | 47 => 291 | 48 => 292 | 49 => 293 | 50 => 294 | 57 => 299 | n => n, fun | 22 => 58 | 24 => 132 | 25 => 256 | 3 => 3 | 39 => 181 | 0 => 0 | 53 => 283 | 55 => 166 | 4 => 4 | 46 => 307 | 45 => 306 | 50 => 311 | 5 => 5 | 9 => 9 | 66 => 324 | 70 => 328 | 76 => 332 | 77 => 333 | n => n, fun | n => n⟩
theorem Try.laysSF : Go.Proofs.SlLaysF0.n6 Try.prog Try.laysSF_ren := {
  mixed := by kernel_rfl
  f6 := ⟨Try.f216.name, by decide, Try.func216.trans (congrArg some (by kernel_rfl))⟩
  f14 := ⟨Try.f251.name, by decide, Try.func251.trans (congrArg some (by kernel_rfl))⟩
  f15 := Try.func252.trans (congrArg some (by kernel_rfl))
  f20 := ⟨Try.f269.name, by decide, Try.func269.trans (congrArg some (by kernel_rfl))⟩
  f21 := ⟨Try.f270.name, by decide, Try.func270.trans (congrArg some (by kernel_rfl))⟩
  f22 := ⟨Try.f271.name, by decide, Try.func271.trans (congrArg some (by kernel_rfl))⟩
  f23 := ⟨Try.f272.name, by decide, Try.func272.trans (congrArg some (by kernel_rfl))⟩
  f24 := ⟨Try.f273.name, by decide, Try.func273.trans (congrArg some (by kernel_rfl))⟩
  f25 := ⟨Try.f274.name, by decide, Try.func274.trans (congrArg some (by kernel_rfl))⟩
  f26 := ⟨Try.f275.name, by decide, Try.func275.trans (congrArg some (by kernel_rfl))⟩
  f27 := ⟨Try.f276.name, by decide, Try.func276.trans (congrArg some (by kernel_rfl))⟩
  f28 := Try.func277.trans (congrArg some (by kernel_rfl))
  f29 := Try.func278.trans (congrArg some (by kernel_rfl))
  f46 := ⟨Try.f290.name, by decide, Try.func290.trans (congrArg some (by kernel_rfl))⟩
  f47 := Try.func291.trans (congrArg some (by kernel_rfl))
  f48 := Try.func292.trans (congrArg some (by kernel_rfl))
  f49 := ⟨Try.f293.name, by decide, Try.func293.trans (congrArg some (by kernel_rfl))⟩
  f50 := ⟨Try.f294.name, by decide, Try.func294.trans (congrArg some (by kernel_rfl))⟩
  f57 := ⟨Try.f299.name, by decide, Try.func299.trans (congrArg some (by kernel_rfl))⟩
  t0 := Try.underlying0
  a0 := Try.isAgg0
  z0 := Try.sizeOf0
  v0 := Try.zeroValue0
  t3 := Try.underlying3
  a3 := Try.isAgg3
  z3 := Try.sizeOf3
  v3 := Try.zeroValue3
  t4 := Try.underlying4
  a4 := Try.isAgg4
  z4 := Try.sizeOf4
  v4 := Try.zeroValue4
  t5 := Try.underlying5
  a5 := Try.isAgg5
  z5 := Try.sizeOf5
  v5 := Try.zeroValue5
  t9 := Try.underlying9
  a9 := Try.isAgg9
  z9 := Try.sizeOf9
  v9 := Try.zeroValue9
  t22 := Try.underlying58
  a22 := Try.isAgg58
  z22 := Try.sizeOf58
  v22 := Try.zeroValue58
  t25 := Try.underlying256
  a25 := Try.isAgg256
  z25 := Try.sizeOf256
  v25 := Try.zeroValue256
  t39 := Try.underlying181
  a39 := Try.isAgg181
  z39 := Try.sizeOf181
  v39 := Try.zeroValue181
  t45 := Try.underlying306
  a45 := Try.isAgg306
  z45 := Try.sizeOf306
  v45 := Try.zeroValue306
  t46 := Try.underlying307
  a46 := Try.isAgg307
  z46 := Try.sizeOf307
  v46 := Try.zeroValue307
  t50 := Try.underlying311
  a50 := Try.isAgg311
  z50 := Try.sizeOf311
  v50 := Try.zeroValue311
  t53 := Try.underlying283
  a53 := Try.isAgg283
  z53 := Try.sizeOf283
  v53 := Try.zeroValue283
  t55 := Try.underlying166
  a55 := Try.isAgg166
  z55 := Try.sizeOf166
  v55 := Try.zeroValue166
  t66 := Try.underlying324
  a66 := Try.isAgg324
  z66 := Try.sizeOf324
  v66 := Try.zeroValue324
  t70 := Try.underlying328
  a70 := Try.isAgg328
  z70 := Try.sizeOf328
  v70 := Try.zeroValue328
  t76 := Try.underlying332
  a76 := Try.isAgg332
  z76 := Try.sizeOf332
  v76 := Try.zeroValue332
  t77 := Try.underlying333
  a77 := Try.isAgg333
  z77 := Try.sizeOf333
  v77 := Try.zeroValue333 }
end Go.Proofs
