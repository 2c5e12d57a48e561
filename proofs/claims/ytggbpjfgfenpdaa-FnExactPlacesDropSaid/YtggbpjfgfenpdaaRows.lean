/-
  No cell of these rows narrows 'for every input' (looked for: loops, veiled, ifaces, maps, wideKeys, modest, calm, conditions, laid).
  DERIVED. THE GIVEN ROWS OF THIS SEAT. 6 by the template 'for every input the law returns true; each argument reads behind the call as it read before'; 0 by the template 'total and deterministic' (their statements: YtggbpjfgfenpdaaTotals.lean).
  GIVEN WITH THE SEED: the statements are not yours to turn. If you find one false, say at which input.
  Laid BY PROGRAM, IN A SANDBOX (cutbox-rows.mjs): the forced cells as the released guide's own fill.sh prints them over the translation e14354aedc13b616… (all of the seat's roots in one cut). By AI agents, Wed Nov 11 2026. No macro, syntax, notation, axiom, sorry.
-/
import Derived.Test.YtggbpjfgfenpdaaChecked
import GoSem.Claim
import GoSem.ClaimJoined
import GoSem.ClaimMapViews
import Derived.JoinedTies
import Derived.KernelRfl
namespace Go.Proofs.Ytggbpjfgfenpdaa
/- THE CELL 'sum', in the pinned program and in every row, IS THE sha256 OF THE DUMP (.gsa) THAT YtggbpjfgfenpdaaProg.lean LOADS. Nothing in Lean hashes anything: it is a label: what it is worth is what the hold of that sum in a sandbox is worth. -/
noncomputable def Try.pinned : Pinned := { name := "ytggbpjfgfenpdaa", sum := "e14354aedc13b6169850adbc10d0b1ef9660dc687b2b0d8ea72012f2a609dccb", checked := Try.checked }
namespace Rows
def none {H : Type} : Left H := { results := [], args := [] }

/-- 'laws.FnExactPlacesBytes': WHATEVER THE INPUT: true; the input reads as it did. -/
def fnExactPlacesBytesSpec : ChangeSpec := { name := "fnExactPlacesBytes", fn := fun _ => fun
  | [d] => { results := [.lit (.bool true)], args := [d] }
  | _ => none }
def fnExactPlacesBytesRow : OpenClaim := { program := "ytggbpjfgfenpdaa", sum := "e14354aedc13b6169850adbc10d0b1ef9660dc687b2b0d8ea72012f2a609dccb", func := "loop.example/g00259/laws.FnExactPlacesBytes", spec := "fnExactPlacesBytes", inPlace := ["internal/bytealg.abigen_runtime_cmpstring", "internal/abi.NoEscape"], apart := false }
def FnExactPlacesBytesSaid : Prop := fnExactPlacesBytesRow.holds Try.pinned (OpenSpec.ofChange fnExactPlacesBytesSpec)

/-- ITS FALSE NEIGHBOUR: 'it returns false'. Refute it at one input. -/
def fnExactPlacesBytesWrong : ChangeSpec := { name := "fnExactPlacesBytes", fn := fun _ => fun
  | [d] => { results := [.lit (.bool false)], args := [d] }
  | _ => none }
def FnExactPlacesBytesWrongFalsely : Prop := fnExactPlacesBytesRow.holds Try.pinned (OpenSpec.ofChange fnExactPlacesBytesWrong)

/-- 'laws.FnExactNodesBytes': WHATEVER THE INPUT: true; the input reads as it did. -/
def fnExactNodesBytesSpec : ChangeSpec := { name := "fnExactNodesBytes", fn := fun _ => fun
  | [d] => { results := [.lit (.bool true)], args := [d] }
  | _ => none }
def fnExactNodesBytesRow : OpenClaim := { program := "ytggbpjfgfenpdaa", sum := "e14354aedc13b6169850adbc10d0b1ef9660dc687b2b0d8ea72012f2a609dccb", func := "loop.example/g00259/laws.FnExactNodesBytes", spec := "fnExactNodesBytes", inPlace := ["internal/abi.NoEscape", "internal/bytealg.MakeNoZero"], unfollowed := true, recurses := true, apart := false }
def FnExactNodesBytesSaid : Prop := fnExactNodesBytesRow.holds Try.pinned (OpenSpec.ofChange fnExactNodesBytesSpec)

/-- ITS FALSE NEIGHBOUR: 'it returns false'. Refute it at one input. -/
def fnExactNodesBytesWrong : ChangeSpec := { name := "fnExactNodesBytes", fn := fun _ => fun
  | [d] => { results := [.lit (.bool false)], args := [d] }
  | _ => none }
def FnExactNodesBytesWrongFalsely : Prop := fnExactNodesBytesRow.holds Try.pinned (OpenSpec.ofChange fnExactNodesBytesWrong)

/-- 'laws.FnExactNodesRead': WHATEVER THE INPUT: true; the input reads as it did. -/
def fnExactNodesReadSpec : ChangeSpec := { name := "fnExactNodesRead", fn := fun _ => fun
  | [d] => { results := [.lit (.bool true)], args := [d] }
  | _ => none }
def fnExactNodesReadRow : OpenClaim := { program := "ytggbpjfgfenpdaa", sum := "e14354aedc13b6169850adbc10d0b1ef9660dc687b2b0d8ea72012f2a609dccb", func := "loop.example/g00259/laws.FnExactNodesRead", spec := "fnExactNodesRead", unfollowed := true, recurses := true, apart := false }
def FnExactNodesReadSaid : Prop := fnExactNodesReadRow.holds Try.pinned (OpenSpec.ofChange fnExactNodesReadSpec)

/-- ITS FALSE NEIGHBOUR: 'it returns false'. Refute it at one input. -/
def fnExactNodesReadWrong : ChangeSpec := { name := "fnExactNodesRead", fn := fun _ => fun
  | [d] => { results := [.lit (.bool false)], args := [d] }
  | _ => none }
def FnExactNodesReadWrongFalsely : Prop := fnExactNodesReadRow.holds Try.pinned (OpenSpec.ofChange fnExactNodesReadWrong)

/-- 'laws.FnExactPlacesDrop': WHATEVER THE INPUT: true; the input reads as it did. -/
def fnExactPlacesDropSpec : ChangeSpec := { name := "fnExactPlacesDrop", fn := fun _ => fun
  | [d1, d2] => { results := [.lit (.bool true)], args := [d1, d2] }
  | _ => none }
def fnExactPlacesDropRow : OpenClaim := { program := "ytggbpjfgfenpdaa", sum := "e14354aedc13b6169850adbc10d0b1ef9660dc687b2b0d8ea72012f2a609dccb", func := "loop.example/g00259/laws.FnExactPlacesDrop", spec := "fnExactPlacesDrop", inPlace := ["internal/bytealg.abigen_runtime_cmpstring"], unfollowed := true, recurses := true, apart := false }
def FnExactPlacesDropSaid : Prop := fnExactPlacesDropRow.holds Try.pinned (OpenSpec.ofChange fnExactPlacesDropSpec)

/-- ITS FALSE NEIGHBOUR: 'it returns false'. Refute it at one input. -/
def fnExactPlacesDropWrong : ChangeSpec := { name := "fnExactPlacesDrop", fn := fun _ => fun
  | [d1, d2] => { results := [.lit (.bool false)], args := [d1, d2] }
  | _ => none }
def FnExactPlacesDropWrongFalsely : Prop := fnExactPlacesDropRow.holds Try.pinned (OpenSpec.ofChange fnExactPlacesDropWrong)

/-- 'laws.FnExactPlacesAdd': WHATEVER THE INPUT: true; the input reads as it did. -/
def fnExactPlacesAddSpec : ChangeSpec := { name := "fnExactPlacesAdd", fn := fun _ => fun
  | [d1, d2] => { results := [.lit (.bool true)], args := [d1, d2] }
  | _ => none }
def fnExactPlacesAddRow : OpenClaim := { program := "ytggbpjfgfenpdaa", sum := "e14354aedc13b6169850adbc10d0b1ef9660dc687b2b0d8ea72012f2a609dccb", func := "loop.example/g00259/laws.FnExactPlacesAdd", spec := "fnExactPlacesAdd", inPlace := ["internal/bytealg.abigen_runtime_cmpstring"], unfollowed := true, recurses := true, apart := false }
def FnExactPlacesAddSaid : Prop := fnExactPlacesAddRow.holds Try.pinned (OpenSpec.ofChange fnExactPlacesAddSpec)

/-- ITS FALSE NEIGHBOUR: 'it returns false'. Refute it at one input. -/
def fnExactPlacesAddWrong : ChangeSpec := { name := "fnExactPlacesAdd", fn := fun _ => fun
  | [d1, d2] => { results := [.lit (.bool false)], args := [d1, d2] }
  | _ => none }
def FnExactPlacesAddWrongFalsely : Prop := fnExactPlacesAddRow.holds Try.pinned (OpenSpec.ofChange fnExactPlacesAddWrong)

/-- 'laws.FnWhole': WHATEVER THE INPUT: true; the input reads as it did. -/
def fnWholeSpec : ChangeSpec := { name := "fnWhole", fn := fun _ => fun
  | [d1, d2] => { results := [.lit (.bool true)], args := [d1, d2] }
  | _ => none }
def fnWholeRow : OpenClaim := { program := "ytggbpjfgfenpdaa", sum := "e14354aedc13b6169850adbc10d0b1ef9660dc687b2b0d8ea72012f2a609dccb", func := "loop.example/g00259/laws.FnWhole", spec := "fnWhole", unfollowed := true, recurses := true, apart := false }
def FnWholeSaid : Prop := fnWholeRow.holds Try.pinned (OpenSpec.ofChange fnWholeSpec)

/-- ITS FALSE NEIGHBOUR: 'it returns false'. Refute it at one input. -/
def fnWholeWrong : ChangeSpec := { name := "fnWhole", fn := fun _ => fun
  | [d1, d2] => { results := [.lit (.bool false)], args := [d1, d2] }
  | _ => none }
def FnWholeWrongFalsely : Prop := fnWholeRow.holds Try.pinned (OpenSpec.ofChange fnWholeWrong)

/- THE SECOND FORM. 'bulk': how many values and letters a reading holds, each counted each time it is reached (what is shared counts as often as it is met; a slice's spare places count too). A statement '..UptoSaid' is the law's where the arguments, and the package variables that the reading takes, are together of bulk at most 1048576: NARROWER than '..Said'. Prove '..Said' where nothing that the law and all that it calls make is longer than what came in: it says more and counts as full. Else prove '..UptoSaid'. A law counts once. -/
mutual
def uptoBulk {H : Type} : DataW H → Nat
  | .lit (.string bytes) => bytes.length + 1
  | .lit _ => 1
  | .nil => 1
  | .ptr d => uptoBulk d + 1
  | .slice elems spare => uptoBulkAll elems + uptoBulkAll spare + 1
  | .agg parts => uptoBulkAll parts + 1
  | .iface _ d => uptoBulk d + 1
  | .map entries => uptoBulkEntries entries + 1
  | .held _ => 1
def uptoBulkAll {H : Type} : List (DataW H) → Nat
  | [] => 0
  | d :: r => uptoBulk d + uptoBulkAll r
def uptoBulkEntries {H : Type} : List (Lit × DataW H) → Nat
  | [] => 0
  | x :: r => uptoBulkEntry x + uptoBulkEntries r
def uptoBulkEntry {H : Type} : Lit × DataW H → Nat
  | (.string bytes, d) => bytes.length + uptoBulk d + 1
  | (_, d) => uptoBulk d + 1
 end
def uptoSmall : (H : Type) → List (DataW H) → Bool := fun _ ds => decide (uptoBulkAll ds ≤ 1048576)
def OpenSpec.upto (s : _root_.Go.ChangeSpec) : _root_.Go.OpenSpec := { _root_.Go.OpenSpec.ofChange s with cond := some uptoSmall }

/-- 'laws.FnExactPlacesBytes', WHERE WHAT IT READS IS OF BULK AT MOST 1048576: true; the input reads as it did. -/
def fnExactPlacesBytesUptoRow : OpenClaim := { program := "ytggbpjfgfenpdaa", sum := "e14354aedc13b6169850adbc10d0b1ef9660dc687b2b0d8ea72012f2a609dccb", func := "loop.example/g00259/laws.FnExactPlacesBytes", spec := "fnExactPlacesBytes", inPlace := ["internal/bytealg.abigen_runtime_cmpstring", "internal/abi.NoEscape"], apart := false, narrowed := true }
def FnExactPlacesBytesUptoSaid : Prop := fnExactPlacesBytesUptoRow.holds Try.pinned (OpenSpec.upto fnExactPlacesBytesSpec)

/-- 'laws.FnExactNodesBytes', WHERE WHAT IT READS IS OF BULK AT MOST 1048576: true; the input reads as it did. -/
def fnExactNodesBytesUptoRow : OpenClaim := { program := "ytggbpjfgfenpdaa", sum := "e14354aedc13b6169850adbc10d0b1ef9660dc687b2b0d8ea72012f2a609dccb", func := "loop.example/g00259/laws.FnExactNodesBytes", spec := "fnExactNodesBytes", inPlace := ["internal/abi.NoEscape", "internal/bytealg.MakeNoZero"], unfollowed := true, recurses := true, apart := false, narrowed := true }
def FnExactNodesBytesUptoSaid : Prop := fnExactNodesBytesUptoRow.holds Try.pinned (OpenSpec.upto fnExactNodesBytesSpec)

/-- 'laws.FnExactNodesRead', WHERE WHAT IT READS IS OF BULK AT MOST 1048576: true; the input reads as it did. -/
def fnExactNodesReadUptoRow : OpenClaim := { program := "ytggbpjfgfenpdaa", sum := "e14354aedc13b6169850adbc10d0b1ef9660dc687b2b0d8ea72012f2a609dccb", func := "loop.example/g00259/laws.FnExactNodesRead", spec := "fnExactNodesRead", unfollowed := true, recurses := true, apart := false, narrowed := true }
def FnExactNodesReadUptoSaid : Prop := fnExactNodesReadUptoRow.holds Try.pinned (OpenSpec.upto fnExactNodesReadSpec)

/-- 'laws.FnExactPlacesDrop', WHERE WHAT IT READS IS OF BULK AT MOST 1048576: true; the input reads as it did. -/
def fnExactPlacesDropUptoRow : OpenClaim := { program := "ytggbpjfgfenpdaa", sum := "e14354aedc13b6169850adbc10d0b1ef9660dc687b2b0d8ea72012f2a609dccb", func := "loop.example/g00259/laws.FnExactPlacesDrop", spec := "fnExactPlacesDrop", inPlace := ["internal/bytealg.abigen_runtime_cmpstring"], unfollowed := true, recurses := true, apart := false, narrowed := true }
def FnExactPlacesDropUptoSaid : Prop := fnExactPlacesDropUptoRow.holds Try.pinned (OpenSpec.upto fnExactPlacesDropSpec)

/-- 'laws.FnExactPlacesAdd', WHERE WHAT IT READS IS OF BULK AT MOST 1048576: true; the input reads as it did. -/
def fnExactPlacesAddUptoRow : OpenClaim := { program := "ytggbpjfgfenpdaa", sum := "e14354aedc13b6169850adbc10d0b1ef9660dc687b2b0d8ea72012f2a609dccb", func := "loop.example/g00259/laws.FnExactPlacesAdd", spec := "fnExactPlacesAdd", inPlace := ["internal/bytealg.abigen_runtime_cmpstring"], unfollowed := true, recurses := true, apart := false, narrowed := true }
def FnExactPlacesAddUptoSaid : Prop := fnExactPlacesAddUptoRow.holds Try.pinned (OpenSpec.upto fnExactPlacesAddSpec)

/-- 'laws.FnWhole', WHERE WHAT IT READS IS OF BULK AT MOST 1048576: true; the input reads as it did. -/
def fnWholeUptoRow : OpenClaim := { program := "ytggbpjfgfenpdaa", sum := "e14354aedc13b6169850adbc10d0b1ef9660dc687b2b0d8ea72012f2a609dccb", func := "loop.example/g00259/laws.FnWhole", spec := "fnWhole", unfollowed := true, recurses := true, apart := false, narrowed := true }
def FnWholeUptoSaid : Prop := fnWholeUptoRow.holds Try.pinned (OpenSpec.upto fnWholeSpec)

end Rows
end Go.Proofs.Ytggbpjfgfenpdaa
