/- A library function at this program: printed by the kit's shelf tools. -/
import Derived.Shelf.Small.Strs
import Derived.Shelf.Sort.Plain
import Derived.Shelf.Slices.CompactS
import Derived.Shelf.Slices.In.SortNone
import Derived.Test.YtdbnajnelbebfaaProg
namespace Go.Proofs
open Go.Shelf
def Try.lays106_ren : Go.Shelf.Ren := ⟨fun | 106 => 132 | 213 => 177 | 265 => 201 | n => n, fun | 9 => 9 | 3 => 3 | n => n, fun | n => n⟩
theorem Try.lays106 : Go.Proofs.Lays.n106 Try.prog Try.lays106_ren := {
  mixed := by kernel_rfl
  f106 := Try.func132.trans (congrArg some (by kernel_rfl))
  f213 := Try.func177.trans (congrArg some (by kernel_rfl))
  f265 := Try.func201.trans (congrArg some (by kernel_rfl))
  t3 := Try.underlying3
  a3 := Try.isAgg3
  z3 := Try.sizeOf3
  v3 := Try.zeroValue3
  t9 := Try.underlying9
  a9 := Try.isAgg9
  z9 := Try.sizeOf9
  v9 := Try.zeroValue9 }
open Go.RowKit in
/-- strings.Compare: "Compare returns an integer comparing two strings lexicographically. The result will be 0 if a == b, -1 if a < b, and +1 if a > b.": IT RETURNS 'Lib.compareBytes a b'; the world is as it was. (LAID: no walk: one application.) -/
theorem Try.strings_Compare (a b : ByteArray) (w : World) :
    Calls Try.prog 132 #[.string a, .string b] w fun e w' => e = .returned (.int .i64 (Lib.compareBytes a.data.toList b.data.toList)) ∧ w' = w := Any.strings_Compare Try.lays106 a b w
def Try.lays190_ren : Go.Shelf.Ren := ⟨fun | 190 => 192 | 125 => 213 | 258 => 212 | 128 => 233 | 129 => 234 | 302 => 224 | 303 => 225 | 304 => 226 | 305 => 227 | 306 => 228 | 307 => 229 | 308 => 230 | 309 => 231 | 310 => 232 | 333 => 238 | 329 => 239 | 330 => 240 | 334 => 241 | 335 => 242 | 336 => 243 | 344 => 244 | n => n, fun | 31 => 25 | 9 => 9 | 3 => 3 | 46 => 162 | 0 => 0 | 51 => 241 | 53 => 142 | 4 => 4 | 183 => 264 | 182 => 263 | 131 => 268 | 5 => 5 | 218 => 276 | 222 => 280 | 228 => 282 | 229 => 283 | n => n, fun | n => n⟩
theorem Try.lays190 : Go.Proofs.Lays.n190 Try.prog Try.lays190_ren := {
  mixed := by kernel_rfl
  f125 := Try.func213.trans (congrArg some (by kernel_rfl))
  f128 := Try.func233.trans (congrArg some (by kernel_rfl))
  f129 := Try.func234.trans (congrArg some (by kernel_rfl))
  f190 := Try.func192.trans (congrArg some (by kernel_rfl))
  f258 := Try.func212.trans (congrArg some (by kernel_rfl))
  f302 := Try.func224.trans (congrArg some (by kernel_rfl))
  f303 := Try.func225.trans (congrArg some (by kernel_rfl))
  f304 := Try.func226.trans (congrArg some (by kernel_rfl))
  f305 := Try.func227.trans (congrArg some (by kernel_rfl))
  f306 := Try.func228.trans (congrArg some (by kernel_rfl))
  f307 := Try.func229.trans (congrArg some (by kernel_rfl))
  f308 := Try.func230.trans (congrArg some (by kernel_rfl))
  f309 := Try.func231.trans (congrArg some (by kernel_rfl))
  f310 := Try.func232.trans (congrArg some (by kernel_rfl))
  f329 := Try.func239.trans (congrArg some (by kernel_rfl))
  f330 := Try.func240.trans (congrArg some (by kernel_rfl))
  f333 := Try.func238.trans (congrArg some (by kernel_rfl))
  f334 := Try.func241.trans (congrArg some (by kernel_rfl))
  f335 := Try.func242.trans (congrArg some (by kernel_rfl))
  f336 := Try.func243.trans (congrArg some (by kernel_rfl))
  f344 := Try.func244.trans (congrArg some (by kernel_rfl))
  t0 := Try.underlying0
  a0 := Try.isAgg0
  z0 := Try.sizeOf0
  v0 := Try.zeroValue0
  t3 := Try.underlying3
  a3 := Try.isAgg3
  z3 := Try.sizeOf3
  v3 := Try.zeroValue3
  t4 := Try.underlying4
  a4 := Try.isAgg4
  z4 := Try.sizeOf4
  v4 := Try.zeroValue4
  t5 := Try.underlying5
  a5 := Try.isAgg5
  z5 := Try.sizeOf5
  v5 := Try.zeroValue5
  t9 := Try.underlying9
  a9 := Try.isAgg9
  z9 := Try.sizeOf9
  v9 := Try.zeroValue9
  t31 := Try.underlying25
  a31 := Try.isAgg25
  z31 := Try.sizeOf25
  v31 := Try.zeroValue25
  t46 := Try.underlying162
  a46 := Try.isAgg162
  z46 := Try.sizeOf162
  v46 := Try.zeroValue162
  t51 := Try.underlying241
  a51 := Try.isAgg241
  z51 := Try.sizeOf241
  v51 := Try.zeroValue241
  t53 := Try.underlying142
  a53 := Try.isAgg142
  z53 := Try.sizeOf142
  v53 := Try.zeroValue142
  t131 := Try.underlying268
  a131 := Try.isAgg268
  z131 := Try.sizeOf268
  v131 := Try.zeroValue268
  t182 := Try.underlying263
  a182 := Try.isAgg263
  z182 := Try.sizeOf263
  v182 := Try.zeroValue263
  t183 := Try.underlying264
  a183 := Try.isAgg264
  z183 := Try.sizeOf264
  v183 := Try.zeroValue264
  t218 := Try.underlying276
  a218 := Try.isAgg276
  z218 := Try.sizeOf276
  v218 := Try.zeroValue276
  t222 := Try.underlying280
  a222 := Try.isAgg280
  z222 := Try.sizeOf280
  v222 := Try.zeroValue280
  t228 := Try.underlying282
  a228 := Try.isAgg282
  z228 := Try.sizeOf282
  v228 := Try.zeroValue282
  t229 := Try.underlying283
  a229 := Try.isAgg283
  z229 := Try.sizeOf283
  v229 := Try.zeroValue283 }
open Go.Sort Go.RowKit in
theorem Try.slices_Sort_string (blk off cap : Nat) (ss : List (List UInt8)) (w : World) (hH : Holds encStr w blk off ss.toArray) (hblk : blk < w.heap.size) (hsz : ss.length < 4611686018427387904) :
    Calls Try.prog 192 #[.slice (some ⟨blk, off, none⟩) ss.length cap] w fun e w' =>
      e = .returned (.tuple #[]) ∧ ∃ n os, w' = grow (putRow encStr (Sort.ahead w n) blk off (ss.mergeSort fun x y => decide (x ≤ y)).toArray) os := Any.slices_Sort_string Try.lays190 blk off cap ss w hH hblk hsz
def Try.lays194_ren : Go.Shelf.Ren := ⟨fun | 194 => 193 | n => n, fun | 31 => 25 | 9 => 9 | 3 => 3 | 4 => 4 | 0 => 0 | n => n, fun | n => n⟩
theorem Try.lays194 : Go.Proofs.Lays.n194 Try.prog Try.lays194_ren := {
  mixed := by kernel_rfl
  f194 := Try.func193.trans (congrArg some (by kernel_rfl))
  t0 := Try.underlying0
  a0 := Try.isAgg0
  z0 := Try.sizeOf0
  v0 := Try.zeroValue0
  t3 := Try.underlying3
  a3 := Try.isAgg3
  z3 := Try.sizeOf3
  v3 := Try.zeroValue3
  t4 := Try.underlying4
  a4 := Try.isAgg4
  z4 := Try.sizeOf4
  v4 := Try.zeroValue4
  t9 := Try.underlying9
  a9 := Try.isAgg9
  z9 := Try.sizeOf9
  v9 := Try.zeroValue9
  t31 := Try.underlying25
  a31 := Try.isAgg25
  z31 := Try.sizeOf25
  v31 := Try.zeroValue25 }
open Go.RowKit Go.Lib Go.Sort in
/-- slices.Compact at []string: "Compact replaces consecutive runs of equal elements with a single copy. This is like the uniq command found on Unix. Compact modifies the contents of the slice s and returns the modified slice, which may have a smaller length. Compact zeroes the elements between the new length and the original length. The result preserves the nilness of s.": IT RETURNS THE SLICE CUT TO 'Lib.compact zs'; ITS CELLS HOLD 'Lib.compact zs', THEN ZERO VALUES up to the old length; all else is as it was, but for the count of draws. IN THE WORDS OF slices.Sort's CONTRACT ('Holds', 'putRow'): so the everyday 'slices.Sort(xs); xs = slices.Compact(xs)' goes from the one contract to the other. It asks 'zs.length ≤ cap' (every slice's: the reslicing 's[:k]' looks at it). Length 0, nil: '.._empty'. (LAID: no walk: one application.) -/
theorem Try.slices_Compact_string (blk off cap : Nat) (zs : List (List UInt8)) (w : World) (hH : Holds encStr w blk off zs.toArray) (hsz : zs.length ≤ 9223372036854775807) (hcap : zs.length ≤ cap) :
    Calls Try.prog 193 #[.slice (some ⟨blk, off, none⟩) zs.length cap] w fun e w' => e = .returned (.slice (some ⟨blk, off, none⟩) (Lib.compact zs).length cap) ∧ ∃ q, w' = putRow encStr (Sort.ahead w q) blk off (Lib.compact zs ++ List.replicate (zs.length - (Lib.compact zs).length) []).toArray := Any.slices_Compact_string Try.lays194 blk off cap zs w hH hsz hcap
open Go.RowKit Go.Lib Go.Sort in
/-- The same at a slice of length 0, a nil one too: it comes back as it is. (LAID: no walk: one application.) -/
theorem Try.slices_Compact_string_empty (a : Option Addr) (cap : Nat) (w : World) :
    Calls Try.prog 193 #[.slice a 0 cap] w fun e w' => e = .returned (.slice a 0 cap) ∧ w' = w := Any.slices_Compact_string_empty Try.lays194 a cap w
open Go.RowKit Go.Sort in
/-- .. and plain. (LAID: no walk: one application.) -/
theorem Try.slices_Sort_string_none (p : Option Addr) (cap : Nat) (w : World) :
    Calls Try.prog 192 #[.slice p 0 cap] w fun e w' => e = .returned (.tuple #[]) ∧ w' = w := Any.slices_Sort_string_none Try.lays190 p cap w
end Go.Proofs
