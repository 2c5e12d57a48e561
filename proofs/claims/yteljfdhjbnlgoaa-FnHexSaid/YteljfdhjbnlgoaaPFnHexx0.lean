-- A program of this session wrote this text: a changed copy of the kit print, with given functions.
import Derived.Test.YteljfdhjbnlgoaaProg
import Derived.Below
import Derived.Deep.Draws
import Derived.Deep.AppendLies
import Derived.Maps.AppendAt
import Derived.OwnWalk
import Derived.Laws.BytesArg
import Derived.Laws.MakeOwn
import Derived.Laws.OwnMore
import Derived.Deep.OwnRows
import Derived.Tactics
import Derived.Lib.ConvBytes
import Derived.Laws.Slices
import Derived.WalkKit
import Derived.KernelRfl
import Derived.RowKit3
import Derived.Deep.LoopGhost
import Derived.Deep.QuietTactic
import Derived.BigQuiet
import Derived.WideLaws
import Derived.Deep.DeepCutAuto
import Derived.Deep.CutBlock
import Derived.Deep.RegionHeld3
import Derived.Laws.Rows
import Derived.Lib.AppendStr
import Derived.ArgAppend
import Derived.Laws.IdiomCopy
import Derived.OrdersHeld
import Derived.Laws.BitsLemmas
import Derived.RowKit
import Derived.Test.YteljfdhjbnlgoaaWWords
import Derived.Test.YteljfdhjbnlgoaaWLast
import Derived.Test.YteljfdhjbnlgoaaWTab
import Derived.Test.YteljfdhjbnlgoaaWFour
import Derived.Test.YteljfdhjbnlgoaaWQPut
import Derived.Test.YteljfdhjbnlgoaaWApart
import Derived.Test.YteljfdhjbnlgoaaWArr
import Derived.Test.YteljfdhjbnlgoaaWZeros
import Derived.Test.YteljfdhjbnlgoaaWFoot
import Derived.Test.YteljfdhjbnlgoaaWKept
import Derived.Test.YteljfdhjbnlgoaaWShare
import Derived.Test.YteljfdhjbnlgoaaWN
import Derived.Test.YteljfdhjbnlgoaaWFootNe
import Derived.Test.YteljfdhjbnlgoaaWAt
import Derived.Test.YteljfdhjbnlgoaaWEqStruct
import Derived.Test.YteljfdhjbnlgoaaWRepsOne
import Derived.Test.YteljfdhjbnlgoaaWInv
import Derived.Test.YteljfdhjbnlgoaaWInvWords
import Derived.Test.YteljfdhjbnlgoaaWGuard
import Derived.Test.YteljfdhjbnlgoaaWNEv
import Derived.Test.YteljfdhjbnlgoaaWMore
namespace Go.Proofs.Yteljfdhjbnlgoaa.PFnHex
open Go.RowKit Go.Proofs.YteljfdhjbnlgoaaW.PrintWords Go.Proofs.YteljfdhjbnlgoaaW.PrintLast Go.Proofs.YteljfdhjbnlgoaaW.PrintMore
attribute [local go_sem] max2_int min2_int max_two min_two max_three min_three max_four min_four   -- for this text's walks alone
set_option linter.unusedVariables false
set_option linter.unusedSimpArgs false



def errW : Option Int → Value
  | none => .nilIface
  | some c => .iface 0 (.int .i64 c)
theorem errW_none : errW none = .nilIface := rfl
theorem errW_some (c : Int) : errW (some c) = .iface 0 (.int .i64 c) := rfl

theorem info5 : (Try.prog.info? 5).map (fun i => (i.zero, i.size, i.bytes)) = some (some (.int .u8 0), 1, 1) := by kernel_rfl
-- the values' own types

end Go.Proofs.Yteljfdhjbnlgoaa.PFnHex
