/- strings.Repeat at this program: printed by the kit's shelf tools. -/
import Derived.Shelf.Strings.Repeat
import Derived.Shelf.LaysM
import Derived.Test.YtddapeieolfolaaDoorProg
namespace Go.Proofs
open Go.Shelf
def Tryd.lays105_ren : Go.Shelf.Ren := ⟨fun | 105 => 112 | 212 => 136 | 99 => 60 | 165 => 137 | 166 => 138 | 170 => 139 | 169 => 140 | 263 => 147 | 264 => 148 | 206 => 107 | 240 => 149 | 241 => 150 | 276 => 156 | 277 => 157 | n => n, fun | 9 => 9 | 3 => 3 | 4 => 4 | 20 => 20 | 0 => 0 | 46 => 121 | 109 => 149 | 5 => 5 | 72 => 153 | 76 => 157 | 51 => 89 | 146 => 162 | 53 => 118 | 148 => 164 | 70 => 151 | 37 => 38 | 75 => 156 | 127 => 166 | 164 => 174 | 80 => 71 | n => n, fun | n => n⟩
theorem Tryd.lays105 : Go.Proofs.Lays.n105 Tryd.prog Tryd.lays105_ren := {
  mixed := by kernel_rfl
  f99 := Tryd.func60.trans (congrArg some (by kernel_rfl))
  f105 := Tryd.func112.trans (congrArg some (by kernel_rfl))
  f165 := Tryd.func137.trans (congrArg some (by kernel_rfl))
  f166 := Tryd.func138.trans (congrArg some (by kernel_rfl))
  f169 := Tryd.func140.trans (congrArg some (by kernel_rfl))
  f170 := Tryd.func139.trans (congrArg some (by kernel_rfl))
  f206 := Tryd.func107.trans (congrArg some (by kernel_rfl))
  f212 := Tryd.func136.trans (congrArg some (by kernel_rfl))
  f240 := Tryd.func149.trans (congrArg some (by kernel_rfl))
  f241 := Tryd.func150.trans (congrArg some (by kernel_rfl))
  f263 := Tryd.func147.trans (congrArg some (by kernel_rfl))
  f264 := Tryd.func148.trans (congrArg some (by kernel_rfl))
  f276 := Tryd.func156.trans (congrArg some (by kernel_rfl))
  f277 := Tryd.func157.trans (congrArg some (by kernel_rfl))
  t0 := Tryd.underlying0
  a0 := Tryd.isAgg0
  z0 := Tryd.sizeOf0
  v0 := Tryd.zeroValue0
  t3 := Tryd.underlying3
  a3 := Tryd.isAgg3
  z3 := Tryd.sizeOf3
  v3 := Tryd.zeroValue3
  t4 := Tryd.underlying4
  a4 := Tryd.isAgg4
  z4 := Tryd.sizeOf4
  v4 := Tryd.zeroValue4
  t5 := Tryd.underlying5
  a5 := Tryd.isAgg5
  z5 := Tryd.sizeOf5
  v5 := Tryd.zeroValue5
  t9 := Tryd.underlying9
  a9 := Tryd.isAgg9
  z9 := Tryd.sizeOf9
  v9 := Tryd.zeroValue9
  t20 := Tryd.underlying20
  a20 := Tryd.isAgg20
  z20 := Tryd.sizeOf20
  v20 := Tryd.zeroValue20
  t37 := Tryd.underlying38
  a37 := Tryd.isAgg38
  z37 := Tryd.sizeOf38
  v37 := Tryd.zeroValue38
  t46 := Tryd.underlying121
  a46 := Tryd.isAgg121
  z46 := Tryd.sizeOf121
  v46 := Tryd.zeroValue121
  t51 := Tryd.underlying89
  a51 := Tryd.isAgg89
  z51 := Tryd.sizeOf89
  v51 := Tryd.zeroValue89
  t53 := Tryd.underlying118
  a53 := Tryd.isAgg118
  z53 := Tryd.sizeOf118
  v53 := Tryd.zeroValue118
  t70 := Tryd.underlying151
  a70 := Tryd.isAgg151
  z70 := Tryd.sizeOf151
  v70 := Tryd.zeroValue151
  t72 := Tryd.underlying153
  a72 := Tryd.isAgg153
  z72 := Tryd.sizeOf153
  v72 := Tryd.zeroValue153
  t75 := Tryd.underlying156
  a75 := Tryd.isAgg156
  z75 := Tryd.sizeOf156
  v75 := Tryd.zeroValue156
  t76 := Tryd.underlying157
  a76 := Tryd.isAgg157
  z76 := Tryd.sizeOf157
  v76 := Tryd.zeroValue157
  t109 := Tryd.underlying149
  a109 := Tryd.isAgg149
  z109 := Tryd.sizeOf149
  v109 := Tryd.zeroValue149
  t127 := Tryd.underlying166
  a127 := Tryd.isAgg166
  z127 := Tryd.sizeOf166
  v127 := Tryd.zeroValue166
  t146 := Tryd.underlying162
  a146 := Tryd.isAgg162
  z146 := Tryd.sizeOf162
  v146 := Tryd.zeroValue162
  t148 := Tryd.underlying164
  a148 := Tryd.isAgg164
  z148 := Tryd.sizeOf164
  v148 := Tryd.zeroValue164
  t164 := Tryd.underlying174
  a164 := Tryd.isAgg174
  z164 := Tryd.sizeOf174
  v164 := Tryd.zeroValue174 }
theorem Tryd.Builder_Extra_105 : Builder.Extra Tryd.prog Tryd.lays105_ren := {
  sizeBuilder := by kernel_rfl
  liesBuilder := by kernel_rfl
  t5 := Tryd.underlying5
  a5 := Tryd.isAgg5
  z5 := Tryd.sizeOf5
  v5 := Tryd.zeroValue5
  infoByte := by kernel_rfl
  cellsByte := by kernel_rfl
  sizeByte := by kernel_rfl
  neB5 := by decide }
open Go.RowKit Go.Lib in
/-- **strings.Repeat: count ≥ 0, the result within one allocation: count copies of s.** (LAID: no walk: one application.) -/
theorem Tryd.strings_Repeat (s : ByteArray) (c : Nat) (w : World) (hc : c ≤ 9223372036854775807) (hlen : s.size * c ≤ 140737488355328) :
    Calls Tryd.prog 112 #[.string s, .int .i64 c] w fun e w' => e = .returned (.string ⟨(Lib.repeatL s.data.toList c).toArray⟩) ∧ Below w.heap.size w w' := Any.strings_Repeat Tryd.lays105 Tryd.Builder_Extra_105 s c w hc hlen
end Go.Proofs
