/- A library function at this program: printed by the kit's shelf tools. -/
import Derived.Shelf.Strings.Split
import Derived.Shelf.LaysM
import Derived.Test.YtfffdndeccipnaaDoorProg
namespace Go.Proofs
open Go.Shelf
def Tryd.lays146_ren : Go.Shelf.Ren := ⟨fun | 146 => 107 | 221 => 134 | 268 => 146 | 138 => 147 | 143 => 148 | 195 => 162 | 197 => 163 | 218 => 164 | 219 => 165 | 260 => 172 | 217 => 173 | 225 => 174 | 224 => 175 | 267 => 176 | 266 => 178 | 314 => 179 | n => n, fun | 9 => 9 | 31 => 89 | 3 => 3 | 4 => 4 | 0 => 0 | 105 => 182 | 21 => 21 | 5 => 5 | 46 => 118 | 119 => 195 | 139 => 198 | 138 => 197 | 146 => 161 | 51 => 76 | n => n, fun | 1 => 2 | 3 => 3 | 4 => 4 | n => n⟩
theorem Tryd.lays146 : Go.Proofs.Lays.n146 Tryd.prog Tryd.lays146_ren := {
  mixed := by kernel_rfl
  f138 := Tryd.func147.trans (congrArg some (by kernel_rfl))
  f143 := Tryd.func148.trans (congrArg some (by kernel_rfl))
  f146 := Tryd.func107.trans (congrArg some (by kernel_rfl))
  f195 := Tryd.func162.trans (congrArg some (by kernel_rfl))
  f197 := Tryd.func163.trans (congrArg some (by kernel_rfl))
  f217 := Tryd.func173.trans (congrArg some (by kernel_rfl))
  f218 := Tryd.func164.trans (congrArg some (by kernel_rfl))
  f219 := Tryd.func165.trans (congrArg some (by kernel_rfl))
  f221 := Tryd.func134.trans (congrArg some (by kernel_rfl))
  f224 := Tryd.func175.trans (congrArg some (by kernel_rfl))
  f225 := Tryd.func174.trans (congrArg some (by kernel_rfl))
  f260 := Tryd.func172.trans (congrArg some (by kernel_rfl))
  f266 := Tryd.func178.trans (congrArg some (by kernel_rfl))
  f267 := Tryd.func176.trans (congrArg some (by kernel_rfl))
  f268 := Tryd.func146.trans (congrArg some (by kernel_rfl))
  f314 := Tryd.func179.trans (congrArg some (by kernel_rfl))
  t0 := Tryd.underlying0
  a0 := Tryd.isAgg0
  z0 := Tryd.sizeOf0
  v0 := Tryd.zeroValue0
  t3 := Tryd.underlying3
  a3 := Tryd.isAgg3
  z3 := Tryd.sizeOf3
  v3 := Tryd.zeroValue3
  t4 := Tryd.underlying4
  a4 := Tryd.isAgg4
  z4 := Tryd.sizeOf4
  v4 := Tryd.zeroValue4
  t5 := Tryd.underlying5
  a5 := Tryd.isAgg5
  z5 := Tryd.sizeOf5
  v5 := Tryd.zeroValue5
  t9 := Tryd.underlying9
  a9 := Tryd.isAgg9
  z9 := Tryd.sizeOf9
  v9 := Tryd.zeroValue9
  t21 := Tryd.underlying21
  a21 := Tryd.isAgg21
  z21 := Tryd.sizeOf21
  v21 := Tryd.zeroValue21
  t31 := Tryd.underlying89
  a31 := Tryd.isAgg89
  z31 := Tryd.sizeOf89
  v31 := Tryd.zeroValue89
  t46 := Tryd.underlying118
  a46 := Tryd.isAgg118
  z46 := Tryd.sizeOf118
  v46 := Tryd.zeroValue118
  t51 := Tryd.underlying76
  a51 := Tryd.isAgg76
  z51 := Tryd.sizeOf76
  v51 := Tryd.zeroValue76
  t105 := Tryd.underlying182
  a105 := Tryd.isAgg182
  z105 := Tryd.sizeOf182
  v105 := Tryd.zeroValue182
  t119 := Tryd.underlying195
  a119 := Tryd.isAgg195
  z119 := Tryd.sizeOf195
  t138 := Tryd.underlying197
  a138 := Tryd.isAgg197
  z138 := Tryd.sizeOf197
  v138 := Tryd.zeroValue197
  t139 := Tryd.underlying198
  a139 := Tryd.isAgg198
  z139 := Tryd.sizeOf198
  v139 := Tryd.zeroValue198
  t146 := Tryd.underlying161
  a146 := Tryd.isAgg161
  z146 := Tryd.sizeOf161
  v146 := Tryd.zeroValue161
  g1 := by kernel_rfl
  g3 := by kernel_rfl
  g4 := by kernel_rfl }
open Go.RowKit Go.Lib in
/-- strings.Split. (LAID: no walk: one application.) -/
theorem Tryd.strings_Split (s sep : ByteArray) (m : Int) (w : World) (hs : s.size < 4294967281) (hm : w.cell? ⟨2, 0, none⟩ = some (.int .i64 m)) (h1 : 1 ≤ sep.size) :
    Calls Tryd.prog 107 #[.string s, .string sep] w fun e w' =>
      e = .returned (.slice (some ⟨w.heap.size, 0, none⟩) (Lib.countB s sep + 1) (Lib.countB s sep + 1)) ∧ w' = w.alloc (.cells ((Lib.splitB sep 0 (Lib.countB s sep) s).map Value.string).toArray 9) := Any.strings_Split Tryd.lays146 (by kernel_rfl) s sep m w hs hm h1
end Go.Proofs
