/- A region that draws its order, by one relation an operation: for regions that read, and call what only makes memory. A library text: it proves no statement by itself. -/
import Derived.Test.YtfffdndeccipnaaDoorVFnPack
import Derived.RegionTactic
import Derived.OrdersHeld
namespace Go.Proofs.YtfffdndeccipnaaDoor.Reg
open Go.RowKit Go.Proofs.YtfffdndeccipnaaDoorW.PrintWords Go.Proofs.YtfffdndeccipnaaDoorW.PrintLast
set_option linter.unusedVariables false
/-- The world has grown: what was there is as it was. -/
abbrev Grow (w w' : World) : Prop := Below w.heap.size w w'
theorem grow_refl (w : World) : Grow w w := Below.refl _ _
section
variable {P : Program} {Q : Exit → Act → World → Prop}
/-! The same in plain words: A us is the frame in which each slot of the region has us. -/
theorem cellG {w wr w' : World} {p : Addr} {v : Value} (hb : Below w.heap.size w wr) (hg : Grow wr w') (h : w.cell? p = some v) : w'.cell? p = some v :=
 ((hb.trans (hg.mono hb.size)).cell (World.block_lt_of_cell? w _ h)).trans h
variable {R : Nat → Value → World → Prop} {a : Act} {w' : World} {o : Oper} {i : Nat} {us : Nat → Value} {K : Act → World → Prop}
end
end Go.Proofs.YtfffdndeccipnaaDoor.Reg
