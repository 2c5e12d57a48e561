/- strings.Repeat at this program: printed by the kit's shelf tools. -/
import Derived.Shelf.Strings.Repeat
import Derived.Shelf.LaysM
import Derived.Test.YtfffdndeccipnaaDoorProg
namespace Go.Proofs
open Go.Shelf
def Tryd.lays105_ren : Go.Shelf.Ren := ⟨fun | 105 => 103 | 212 => 129 | 99 => 74 | 165 => 130 | 166 => 131 | 170 => 132 | 169 => 133 | 263 => 142 | 264 => 143 | 206 => 112 | 240 => 144 | 241 => 145 | 276 => 160 | 277 => 161 | n => n, fun | 9 => 9 | 3 => 3 | 4 => 4 | 20 => 20 | 0 => 0 | 46 => 118 | 109 => 143 | 5 => 5 | 72 => 147 | 76 => 151 | 51 => 76 | 146 => 161 | 53 => 111 | 148 => 163 | 70 => 145 | 37 => 29 | 75 => 150 | 127 => 165 | 164 => 178 | 80 => 72 | n => n, fun | n => n⟩
theorem Tryd.lays105 : Go.Proofs.Lays.n105 Tryd.prog Tryd.lays105_ren := {
  mixed := by kernel_rfl
  f99 := Tryd.func74.trans (congrArg some (by kernel_rfl))
  f105 := Tryd.func103.trans (congrArg some (by kernel_rfl))
  f165 := Tryd.func130.trans (congrArg some (by kernel_rfl))
  f166 := Tryd.func131.trans (congrArg some (by kernel_rfl))
  f169 := Tryd.func133.trans (congrArg some (by kernel_rfl))
  f170 := Tryd.func132.trans (congrArg some (by kernel_rfl))
  f206 := Tryd.func112.trans (congrArg some (by kernel_rfl))
  f212 := Tryd.func129.trans (congrArg some (by kernel_rfl))
  f240 := Tryd.func144.trans (congrArg some (by kernel_rfl))
  f241 := Tryd.func145.trans (congrArg some (by kernel_rfl))
  f263 := Tryd.func142.trans (congrArg some (by kernel_rfl))
  f264 := Tryd.func143.trans (congrArg some (by kernel_rfl))
  f276 := Tryd.func160.trans (congrArg some (by kernel_rfl))
  f277 := Tryd.func161.trans (congrArg some (by kernel_rfl))
  t0 := Tryd.underlying0
  a0 := Tryd.isAgg0
  z0 := Tryd.sizeOf0
  v0 := Tryd.zeroValue0
  t3 := Tryd.underlying3
  a3 := Tryd.isAgg3
  z3 := Tryd.sizeOf3
  v3 := Tryd.zeroValue3
  t4 := Tryd.underlying4
  a4 := Tryd.isAgg4
  z4 := Tryd.sizeOf4
  v4 := Tryd.zeroValue4
  t5 := Tryd.underlying5
  a5 := Tryd.isAgg5
  z5 := Tryd.sizeOf5
  v5 := Tryd.zeroValue5
  t9 := Tryd.underlying9
  a9 := Tryd.isAgg9
  z9 := Tryd.sizeOf9
  v9 := Tryd.zeroValue9
  t20 := Tryd.underlying20
  a20 := Tryd.isAgg20
  z20 := Tryd.sizeOf20
  v20 := Tryd.zeroValue20
  t37 := Tryd.underlying29
  a37 := Tryd.isAgg29
  z37 := Tryd.sizeOf29
  v37 := Tryd.zeroValue29
  t46 := Tryd.underlying118
  a46 := Tryd.isAgg118
  z46 := Tryd.sizeOf118
  v46 := Tryd.zeroValue118
  t51 := Tryd.underlying76
  a51 := Tryd.isAgg76
  z51 := Tryd.sizeOf76
  v51 := Tryd.zeroValue76
  t53 := Tryd.underlying111
  a53 := Tryd.isAgg111
  z53 := Tryd.sizeOf111
  v53 := Tryd.zeroValue111
  t70 := Tryd.underlying145
  a70 := Tryd.isAgg145
  z70 := Tryd.sizeOf145
  v70 := Tryd.zeroValue145
  t72 := Tryd.underlying147
  a72 := Tryd.isAgg147
  z72 := Tryd.sizeOf147
  v72 := Tryd.zeroValue147
  t75 := Tryd.underlying150
  a75 := Tryd.isAgg150
  z75 := Tryd.sizeOf150
  v75 := Tryd.zeroValue150
  t76 := Tryd.underlying151
  a76 := Tryd.isAgg151
  z76 := Tryd.sizeOf151
  v76 := Tryd.zeroValue151
  t109 := Tryd.underlying143
  a109 := Tryd.isAgg143
  z109 := Tryd.sizeOf143
  v109 := Tryd.zeroValue143
  t127 := Tryd.underlying165
  a127 := Tryd.isAgg165
  z127 := Tryd.sizeOf165
  v127 := Tryd.zeroValue165
  t146 := Tryd.underlying161
  a146 := Tryd.isAgg161
  z146 := Tryd.sizeOf161
  v146 := Tryd.zeroValue161
  t148 := Tryd.underlying163
  a148 := Tryd.isAgg163
  z148 := Tryd.sizeOf163
  v148 := Tryd.zeroValue163
  t164 := Tryd.underlying178
  a164 := Tryd.isAgg178
  z164 := Tryd.sizeOf178
  v164 := Tryd.zeroValue178 }
theorem Tryd.Builder_Extra_105 : Builder.Extra Tryd.prog Tryd.lays105_ren := {
  sizeBuilder := by kernel_rfl
  liesBuilder := by kernel_rfl
  t5 := Tryd.underlying5
  a5 := Tryd.isAgg5
  z5 := Tryd.sizeOf5
  v5 := Tryd.zeroValue5
  infoByte := by kernel_rfl
  cellsByte := by kernel_rfl
  sizeByte := by kernel_rfl
  neB5 := by decide }
open Go.RowKit Go.Lib in
/-- **strings.Repeat: count ≥ 0, the result within one allocation: count copies of s.** (LAID: no walk: one application.) -/
theorem Tryd.strings_Repeat (s : ByteArray) (c : Nat) (w : World) (hc : c ≤ 9223372036854775807) (hlen : s.size * c ≤ 140737488355328) :
    Calls Tryd.prog 103 #[.string s, .int .i64 c] w fun e w' => e = .returned (.string ⟨(Lib.repeatL s.data.toList c).toArray⟩) ∧ Below w.heap.size w w' := Any.strings_Repeat Tryd.lays105 Tryd.Builder_Extra_105 s c w hc hlen
end Go.Proofs
