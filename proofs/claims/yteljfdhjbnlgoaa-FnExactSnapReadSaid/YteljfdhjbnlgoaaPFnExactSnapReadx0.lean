-- A program of this session wrote this text: a changed copy of the kit print, with given functions.
import Derived.Test.YteljfdhjbnlgoaaProg
import Derived.Below
import Derived.Deep.Draws
import Derived.Deep.AppendLies
import Derived.Maps.AppendAt
import Derived.OwnWalk
import Derived.Laws.BytesArg
import Derived.Laws.MakeOwn
import Derived.Laws.OwnMore
import Derived.Deep.OwnRows
import Derived.Tactics
import Derived.Lib.ConvBytes
import Derived.Laws.Slices
import Derived.WalkKit
import Derived.KernelRfl
import Derived.RowKit3
import Derived.Deep.LoopGhost
import Derived.Deep.QuietTactic
import Derived.BigQuiet
import Derived.WideLaws
import Derived.Deep.DeepCutAuto
import Derived.Deep.CutBlock
import Derived.Deep.RegionHeld3
import Derived.Laws.Rows
import Derived.Lib.AppendStr
import Derived.ArgAppend
import Derived.Laws.IdiomCopy
import Derived.OrdersHeld
import Derived.Laws.BitsLemmas
import Derived.RowKit
import Derived.Test.YteljfdhjbnlgoaaWWords
import Derived.Test.YteljfdhjbnlgoaaWLast
import Derived.Test.YteljfdhjbnlgoaaWTab
import Derived.Test.YteljfdhjbnlgoaaWFour
import Derived.Test.YteljfdhjbnlgoaaWQPut
import Derived.Test.YteljfdhjbnlgoaaWApart
import Derived.Test.YteljfdhjbnlgoaaWArr
import Derived.Test.YteljfdhjbnlgoaaWZeros
import Derived.Test.YteljfdhjbnlgoaaWFoot
import Derived.Test.YteljfdhjbnlgoaaWKept
import Derived.Test.YteljfdhjbnlgoaaWShare
import Derived.Test.YteljfdhjbnlgoaaWN
import Derived.Test.YteljfdhjbnlgoaaWFootNe
import Derived.Test.YteljfdhjbnlgoaaWAt
import Derived.Test.YteljfdhjbnlgoaaWEqStruct
import Derived.Test.YteljfdhjbnlgoaaWRepsOne
import Derived.Test.YteljfdhjbnlgoaaWInv
import Derived.Test.YteljfdhjbnlgoaaWInvWords
import Derived.Test.YteljfdhjbnlgoaaWGuard
import Derived.Test.YteljfdhjbnlgoaaWNEv
import Derived.Test.YteljfdhjbnlgoaaWMore
namespace Go.Proofs.Yteljfdhjbnlgoaa.PFnExactSnapRead
open Go.RowKit Go.Proofs.YteljfdhjbnlgoaaW.PrintWords Go.Proofs.YteljfdhjbnlgoaaW.PrintLast Go.Proofs.YteljfdhjbnlgoaaW.PrintMore
theorem AM {p : Prop} (h : p) : Aside0 p := ⟨h⟩
theorem Wa {w W : World} (h : Below w.heap.size w W) (o : Obj) : Below w.heap.size w (W.alloc o) := below_alloc h o
theorem Wn {B : Nat} {w W : World} (h : Below B w W) (n : Nat) : Below B w (W.drewN n) := pw_below_drewN h n
theorem Wd {base : Nat} {w W : World} (h : Below base w W) : Below base w W.drew := below_drew1 h
theorem Ws {w W : World} {g j : Nat} {v : Value} (h : Below w.heap.size w W) (hg : w.heap.size ≤ g) : Below w.heap.size w (W.setCell ⟨g, j, none⟩ v) := below_set h hg
theorem Ga {w : World} {g : Nat} {o : Obj} (h : w.heap[g]? = some o) (o' : Obj) : (w.alloc o').heap[g]? = some o := blk_alloc h o'
theorem Gn {w : World} {g : Nat} {o : Obj} (h : w.heap[g]? = some o) (n : Nat) : (w.drewN n).heap[g]? = some o := blk_drewN h n
theorem Gd {w : World} {g : Nat} {o : Obj} (h : w.heap[g]? = some o) : w.drew.heap[g]? = some o := blk_drew h
theorem Pa {α : Type} (l : List α) (i : Nat) (a : α) : l.toArray.setIfInBounds i a = (l.set i a).toArray := List.setIfInBounds_toArray ..
abbrev I : Bool := true
abbrev O : Bool := false
attribute [local go_sem] max2_int min2_int max_two min_two max_three min_three max_four min_four   -- for this text's walks alone
set_option linter.unusedVariables false
set_option linter.unusedSimpArgs false



def errW : Option Int → Value
 | none => .nilIface
 | some c => .iface 0 (.int .i64 c)
theorem errW_none : errW none = .nilIface := rfl
theorem errW_some (c : Int) : errW (some c) = .iface 0 (.int .i64 c) := rfl

-- the values' own types

end Go.Proofs.Yteljfdhjbnlgoaa.PFnExactSnapRead
