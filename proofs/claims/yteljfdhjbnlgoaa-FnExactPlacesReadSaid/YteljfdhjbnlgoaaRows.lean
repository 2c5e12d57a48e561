/-
  No cell of these rows narrows 'for every input' (looked for: loops, veiled, ifaces, maps, wideKeys, modest, calm, conditions, laid).
  DERIVED. THE GIVEN ROWS OF THIS SEAT. 12 by the template 'for every input the law returns true; each argument reads behind the call as it read before'; 0 by the template 'total and deterministic' (their statements: YteljfdhjbnlgoaaTotals.lean).
  GIVEN WITH THE SEED: the statements are not yours to turn. If you find one false, say at which input.
  Laid BY PROGRAM, IN A SANDBOX (cutbox-rows.mjs): the forced cells as the released guide's own fill.sh prints them over the translation 3a9812d0ab2ebdbb… (all of the seat's roots in one cut). By AI agents, Wed Nov 11 2026. No macro, syntax, notation, axiom, sorry.
-/
import Derived.Test.YteljfdhjbnlgoaaChecked
import GoSem.Claim
import GoSem.ClaimJoined
import GoSem.ClaimMapViews
import Derived.JoinedTies
import Derived.KernelRfl
namespace Go.Proofs.Yteljfdhjbnlgoaa
/- THE CELL 'sum', in the pinned program and in every row, IS THE sha256 OF THE DUMP (.gsa) THAT YteljfdhjbnlgoaaProg.lean LOADS. Nothing in Lean hashes anything: it is a label: what it is worth is what the hold of that sum in a sandbox is worth. -/
noncomputable def Try.pinned : Pinned := { name := "yteljfdhjbnlgoaa", sum := "3a9812d0ab2ebdbb18b09623e576bb655a55a7e63c3cd68dfdfc4124f387ae53", checked := Try.checked }
namespace Rows
def none {H : Type} : Left H := { results := [], args := [] }

/-- 'laws.FnFinger': WHATEVER THE INPUT: true; the input reads as it did. -/
def fnFingerSpec : ChangeSpec := { name := "fnFinger", fn := fun _ => fun
  | [d] => { results := [.lit (.bool true)], args := [d] }
  | _ => none }
def fnFingerRow : OpenClaim := { program := "yteljfdhjbnlgoaa", sum := "3a9812d0ab2ebdbb18b09623e576bb655a55a7e63c3cd68dfdfc4124f387ae53", func := "loop.example/g00259/laws.FnFinger", spec := "fnFinger", apart := false }
def FnFingerSaid : Prop := fnFingerRow.holds Try.pinned (OpenSpec.ofChange fnFingerSpec)

/-- ITS FALSE NEIGHBOUR: 'it returns false'. Refute it at one input. -/
def fnFingerWrong : ChangeSpec := { name := "fnFinger", fn := fun _ => fun
  | [d] => { results := [.lit (.bool false)], args := [d] }
  | _ => none }
def FnFingerWrongFalsely : Prop := fnFingerRow.holds Try.pinned (OpenSpec.ofChange fnFingerWrong)

/-- 'laws.FnHex': WHATEVER THE INPUT: true; the input reads as it did. -/
def fnHexSpec : ChangeSpec := { name := "fnHex", fn := fun _ => fun
  | [d1, d2] => { results := [.lit (.bool true)], args := [d1, d2] }
  | _ => none }
def fnHexRow : OpenClaim := { program := "yteljfdhjbnlgoaa", sum := "3a9812d0ab2ebdbb18b09623e576bb655a55a7e63c3cd68dfdfc4124f387ae53", func := "loop.example/g00259/laws.FnHex", spec := "fnHex", inPlace := ["internal/bytealg.IndexByteString"], apart := false }
def FnHexSaid : Prop := fnHexRow.holds Try.pinned (OpenSpec.ofChange fnHexSpec)

/-- ITS FALSE NEIGHBOUR: 'it returns false'. Refute it at one input. -/
def fnHexWrong : ChangeSpec := { name := "fnHex", fn := fun _ => fun
  | [d1, d2] => { results := [.lit (.bool false)], args := [d1, d2] }
  | _ => none }
def FnHexWrongFalsely : Prop := fnHexRow.holds Try.pinned (OpenSpec.ofChange fnHexWrong)

/-- 'laws.FnNums': WHATEVER THE INPUT: true; the input reads as it did. -/
def fnNumsSpec : ChangeSpec := { name := "fnNums", fn := fun _ => fun
  | [d1, d2] => { results := [.lit (.bool true)], args := [d1, d2] }
  | _ => none }
def fnNumsRow : OpenClaim := { program := "yteljfdhjbnlgoaa", sum := "3a9812d0ab2ebdbb18b09623e576bb655a55a7e63c3cd68dfdfc4124f387ae53", func := "loop.example/g00259/laws.FnNums", spec := "fnNums", apart := false }
def FnNumsSaid : Prop := fnNumsRow.holds Try.pinned (OpenSpec.ofChange fnNumsSpec)

/-- ITS FALSE NEIGHBOUR: 'it returns false'. Refute it at one input. -/
def fnNumsWrong : ChangeSpec := { name := "fnNums", fn := fun _ => fun
  | [d1, d2] => { results := [.lit (.bool false)], args := [d1, d2] }
  | _ => none }
def FnNumsWrongFalsely : Prop := fnNumsRow.holds Try.pinned (OpenSpec.ofChange fnNumsWrong)

/-- 'laws.FnPieces': WHATEVER THE INPUT: true; the input reads as it did. -/
def fnPiecesSpec : ChangeSpec := { name := "fnPieces", fn := fun _ => fun
  | [d1, d2] => { results := [.lit (.bool true)], args := [d1, d2] }
  | _ => none }
def fnPiecesRow : OpenClaim := { program := "yteljfdhjbnlgoaa", sum := "3a9812d0ab2ebdbb18b09623e576bb655a55a7e63c3cd68dfdfc4124f387ae53", func := "loop.example/g00259/laws.FnPieces", spec := "fnPieces", apart := false }
def FnPiecesSaid : Prop := fnPiecesRow.holds Try.pinned (OpenSpec.ofChange fnPiecesSpec)

/-- ITS FALSE NEIGHBOUR: 'it returns false'. Refute it at one input. -/
def fnPiecesWrong : ChangeSpec := { name := "fnPieces", fn := fun _ => fun
  | [d1, d2] => { results := [.lit (.bool false)], args := [d1, d2] }
  | _ => none }
def FnPiecesWrongFalsely : Prop := fnPiecesRow.holds Try.pinned (OpenSpec.ofChange fnPiecesWrong)

/-- 'laws.FnExactPlacesFind': WHATEVER THE INPUT: true; the input reads as it did. -/
def fnExactPlacesFindSpec : ChangeSpec := { name := "fnExactPlacesFind", fn := fun _ => fun
  | [d1, d2] => { results := [.lit (.bool true)], args := [d1, d2] }
  | _ => none }
def fnExactPlacesFindRow : OpenClaim := { program := "yteljfdhjbnlgoaa", sum := "3a9812d0ab2ebdbb18b09623e576bb655a55a7e63c3cd68dfdfc4124f387ae53", func := "loop.example/g00259/laws.FnExactPlacesFind", spec := "fnExactPlacesFind", inPlace := ["internal/bytealg.abigen_runtime_cmpstring"], unfollowed := true, recurses := true, apart := false }
def FnExactPlacesFindSaid : Prop := fnExactPlacesFindRow.holds Try.pinned (OpenSpec.ofChange fnExactPlacesFindSpec)

/-- ITS FALSE NEIGHBOUR: 'it returns false'. Refute it at one input. -/
def fnExactPlacesFindWrong : ChangeSpec := { name := "fnExactPlacesFind", fn := fun _ => fun
  | [d1, d2] => { results := [.lit (.bool false)], args := [d1, d2] }
  | _ => none }
def FnExactPlacesFindWrongFalsely : Prop := fnExactPlacesFindRow.holds Try.pinned (OpenSpec.ofChange fnExactPlacesFindWrong)

/-- 'laws.FnExactDriveRead': WHATEVER THE INPUT: true; the input reads as it did. -/
def fnExactDriveReadSpec : ChangeSpec := { name := "fnExactDriveRead", fn := fun _ => fun
  | [d1, d2] => { results := [.lit (.bool true)], args := [d1, d2] }
  | _ => none }
def fnExactDriveReadRow : OpenClaim := { program := "yteljfdhjbnlgoaa", sum := "3a9812d0ab2ebdbb18b09623e576bb655a55a7e63c3cd68dfdfc4124f387ae53", func := "loop.example/g00259/laws.FnExactDriveRead", spec := "fnExactDriveRead", inPlace := ["internal/bytealg.abigen_runtime_cmpstring"], unfollowed := true, recurses := true, apart := false }
def FnExactDriveReadSaid : Prop := fnExactDriveReadRow.holds Try.pinned (OpenSpec.ofChange fnExactDriveReadSpec)

/-- ITS FALSE NEIGHBOUR: 'it returns false'. Refute it at one input. -/
def fnExactDriveReadWrong : ChangeSpec := { name := "fnExactDriveRead", fn := fun _ => fun
  | [d1, d2] => { results := [.lit (.bool false)], args := [d1, d2] }
  | _ => none }
def FnExactDriveReadWrongFalsely : Prop := fnExactDriveReadRow.holds Try.pinned (OpenSpec.ofChange fnExactDriveReadWrong)

/-- 'laws.FnExactSnapRead': WHATEVER THE INPUT: true; the input reads as it did. -/
def fnExactSnapReadSpec : ChangeSpec := { name := "fnExactSnapRead", fn := fun _ => fun
  | [d] => { results := [.lit (.bool true)], args := [d] }
  | _ => none }
def fnExactSnapReadRow : OpenClaim := { program := "yteljfdhjbnlgoaa", sum := "3a9812d0ab2ebdbb18b09623e576bb655a55a7e63c3cd68dfdfc4124f387ae53", func := "loop.example/g00259/laws.FnExactSnapRead", spec := "fnExactSnapRead", apart := false }
def FnExactSnapReadSaid : Prop := fnExactSnapReadRow.holds Try.pinned (OpenSpec.ofChange fnExactSnapReadSpec)

/-- ITS FALSE NEIGHBOUR: 'it returns false'. Refute it at one input. -/
def fnExactSnapReadWrong : ChangeSpec := { name := "fnExactSnapRead", fn := fun _ => fun
  | [d] => { results := [.lit (.bool false)], args := [d] }
  | _ => none }
def FnExactSnapReadWrongFalsely : Prop := fnExactSnapReadRow.holds Try.pinned (OpenSpec.ofChange fnExactSnapReadWrong)

/-- 'laws.FnExactDriveNames': WHATEVER THE INPUT: true; the input reads as it did. -/
def fnExactDriveNamesSpec : ChangeSpec := { name := "fnExactDriveNames", fn := fun _ => fun
  | [d] => { results := [.lit (.bool true)], args := [d] }
  | _ => none }
def fnExactDriveNamesRow : OpenClaim := { program := "yteljfdhjbnlgoaa", sum := "3a9812d0ab2ebdbb18b09623e576bb655a55a7e63c3cd68dfdfc4124f387ae53", func := "loop.example/g00259/laws.FnExactDriveNames", spec := "fnExactDriveNames", apart := false }
def FnExactDriveNamesSaid : Prop := fnExactDriveNamesRow.holds Try.pinned (OpenSpec.ofChange fnExactDriveNamesSpec)

/-- ITS FALSE NEIGHBOUR: 'it returns false'. Refute it at one input. -/
def fnExactDriveNamesWrong : ChangeSpec := { name := "fnExactDriveNames", fn := fun _ => fun
  | [d] => { results := [.lit (.bool false)], args := [d] }
  | _ => none }
def FnExactDriveNamesWrongFalsely : Prop := fnExactDriveNamesRow.holds Try.pinned (OpenSpec.ofChange fnExactDriveNamesWrong)

/-- 'laws.FnExactArrayRight': WHATEVER THE INPUT: true; the input reads as it did. -/
def fnExactArrayRightSpec : ChangeSpec := { name := "fnExactArrayRight", fn := fun _ => fun
  | [d] => { results := [.lit (.bool true)], args := [d] }
  | _ => none }
def fnExactArrayRightRow : OpenClaim := { program := "yteljfdhjbnlgoaa", sum := "3a9812d0ab2ebdbb18b09623e576bb655a55a7e63c3cd68dfdfc4124f387ae53", func := "loop.example/g00259/laws.FnExactArrayRight", spec := "fnExactArrayRight", unfollowed := true, recurses := true, apart := false }
def FnExactArrayRightSaid : Prop := fnExactArrayRightRow.holds Try.pinned (OpenSpec.ofChange fnExactArrayRightSpec)

/-- ITS FALSE NEIGHBOUR: 'it returns false'. Refute it at one input. -/
def fnExactArrayRightWrong : ChangeSpec := { name := "fnExactArrayRight", fn := fun _ => fun
  | [d] => { results := [.lit (.bool false)], args := [d] }
  | _ => none }
def FnExactArrayRightWrongFalsely : Prop := fnExactArrayRightRow.holds Try.pinned (OpenSpec.ofChange fnExactArrayRightWrong)

/-- 'laws.FnExactPlacesBytes': WHATEVER THE INPUT: true; the input reads as it did. -/
def fnExactPlacesBytesSpec : ChangeSpec := { name := "fnExactPlacesBytes", fn := fun _ => fun
  | [d] => { results := [.lit (.bool true)], args := [d] }
  | _ => none }
def fnExactPlacesBytesRow : OpenClaim := { program := "yteljfdhjbnlgoaa", sum := "3a9812d0ab2ebdbb18b09623e576bb655a55a7e63c3cd68dfdfc4124f387ae53", func := "loop.example/g00259/laws.FnExactPlacesBytes", spec := "fnExactPlacesBytes", inPlace := ["internal/bytealg.abigen_runtime_cmpstring", "internal/abi.NoEscape"], apart := false }
def FnExactPlacesBytesSaid : Prop := fnExactPlacesBytesRow.holds Try.pinned (OpenSpec.ofChange fnExactPlacesBytesSpec)

/-- ITS FALSE NEIGHBOUR: 'it returns false'. Refute it at one input. -/
def fnExactPlacesBytesWrong : ChangeSpec := { name := "fnExactPlacesBytes", fn := fun _ => fun
  | [d] => { results := [.lit (.bool false)], args := [d] }
  | _ => none }
def FnExactPlacesBytesWrongFalsely : Prop := fnExactPlacesBytesRow.holds Try.pinned (OpenSpec.ofChange fnExactPlacesBytesWrong)

/-- 'laws.FnExactPlacesDrop': WHATEVER THE INPUT: true; the input reads as it did. -/
def fnExactPlacesDropSpec : ChangeSpec := { name := "fnExactPlacesDrop", fn := fun _ => fun
  | [d1, d2] => { results := [.lit (.bool true)], args := [d1, d2] }
  | _ => none }
def fnExactPlacesDropRow : OpenClaim := { program := "yteljfdhjbnlgoaa", sum := "3a9812d0ab2ebdbb18b09623e576bb655a55a7e63c3cd68dfdfc4124f387ae53", func := "loop.example/g00259/laws.FnExactPlacesDrop", spec := "fnExactPlacesDrop", inPlace := ["internal/bytealg.abigen_runtime_cmpstring"], unfollowed := true, recurses := true, apart := false }
def FnExactPlacesDropSaid : Prop := fnExactPlacesDropRow.holds Try.pinned (OpenSpec.ofChange fnExactPlacesDropSpec)

/-- ITS FALSE NEIGHBOUR: 'it returns false'. Refute it at one input. -/
def fnExactPlacesDropWrong : ChangeSpec := { name := "fnExactPlacesDrop", fn := fun _ => fun
  | [d1, d2] => { results := [.lit (.bool false)], args := [d1, d2] }
  | _ => none }
def FnExactPlacesDropWrongFalsely : Prop := fnExactPlacesDropRow.holds Try.pinned (OpenSpec.ofChange fnExactPlacesDropWrong)

/-- 'laws.FnExactPlacesRead': WHATEVER THE INPUT: true; the input reads as it did. -/
def fnExactPlacesReadSpec : ChangeSpec := { name := "fnExactPlacesRead", fn := fun _ => fun
  | [d] => { results := [.lit (.bool true)], args := [d] }
  | _ => none }
def fnExactPlacesReadRow : OpenClaim := { program := "yteljfdhjbnlgoaa", sum := "3a9812d0ab2ebdbb18b09623e576bb655a55a7e63c3cd68dfdfc4124f387ae53", func := "loop.example/g00259/laws.FnExactPlacesRead", spec := "fnExactPlacesRead", inPlace := ["internal/bytealg.abigen_runtime_cmpstring"], apart := false }
def FnExactPlacesReadSaid : Prop := fnExactPlacesReadRow.holds Try.pinned (OpenSpec.ofChange fnExactPlacesReadSpec)

/-- ITS FALSE NEIGHBOUR: 'it returns false'. Refute it at one input. -/
def fnExactPlacesReadWrong : ChangeSpec := { name := "fnExactPlacesRead", fn := fun _ => fun
  | [d] => { results := [.lit (.bool false)], args := [d] }
  | _ => none }
def FnExactPlacesReadWrongFalsely : Prop := fnExactPlacesReadRow.holds Try.pinned (OpenSpec.ofChange fnExactPlacesReadWrong)

/- THE SECOND FORM. 'bulk': how many values and letters a reading holds, each counted each time it is reached (what is shared counts as often as it is met; a slice's spare places count too). A statement '..UptoSaid' is the law's where the arguments, and the package variables that the reading takes, are together of bulk at most 1048576: NARROWER than '..Said'. Prove '..Said' where nothing that the law and all that it calls make is longer than what came in: it says more and counts as full. Else prove '..UptoSaid'. A law counts once. -/
mutual
def uptoBulk {H : Type} : DataW H → Nat
  | .lit (.string bytes) => bytes.length + 1
  | .lit _ => 1
  | .nil => 1
  | .ptr d => uptoBulk d + 1
  | .slice elems spare => uptoBulkAll elems + uptoBulkAll spare + 1
  | .agg parts => uptoBulkAll parts + 1
  | .iface _ d => uptoBulk d + 1
  | .map entries => uptoBulkEntries entries + 1
  | .held _ => 1
def uptoBulkAll {H : Type} : List (DataW H) → Nat
  | [] => 0
  | d :: r => uptoBulk d + uptoBulkAll r
def uptoBulkEntries {H : Type} : List (Lit × DataW H) → Nat
  | [] => 0
  | x :: r => uptoBulkEntry x + uptoBulkEntries r
def uptoBulkEntry {H : Type} : Lit × DataW H → Nat
  | (.string bytes, d) => bytes.length + uptoBulk d + 1
  | (_, d) => uptoBulk d + 1
 end
def uptoSmall : (H : Type) → List (DataW H) → Bool := fun _ ds => decide (uptoBulkAll ds ≤ 1048576)
def OpenSpec.upto (s : _root_.Go.ChangeSpec) : _root_.Go.OpenSpec := { _root_.Go.OpenSpec.ofChange s with cond := some uptoSmall }

/-- 'laws.FnFinger', WHERE WHAT IT READS IS OF BULK AT MOST 1048576: true; the input reads as it did. -/
def fnFingerUptoRow : OpenClaim := { program := "yteljfdhjbnlgoaa", sum := "3a9812d0ab2ebdbb18b09623e576bb655a55a7e63c3cd68dfdfc4124f387ae53", func := "loop.example/g00259/laws.FnFinger", spec := "fnFinger", apart := false, narrowed := true }
def FnFingerUptoSaid : Prop := fnFingerUptoRow.holds Try.pinned (OpenSpec.upto fnFingerSpec)

/-- 'laws.FnHex', WHERE WHAT IT READS IS OF BULK AT MOST 1048576: true; the input reads as it did. -/
def fnHexUptoRow : OpenClaim := { program := "yteljfdhjbnlgoaa", sum := "3a9812d0ab2ebdbb18b09623e576bb655a55a7e63c3cd68dfdfc4124f387ae53", func := "loop.example/g00259/laws.FnHex", spec := "fnHex", inPlace := ["internal/bytealg.IndexByteString"], apart := false, narrowed := true }
def FnHexUptoSaid : Prop := fnHexUptoRow.holds Try.pinned (OpenSpec.upto fnHexSpec)

/-- 'laws.FnNums', WHERE WHAT IT READS IS OF BULK AT MOST 1048576: true; the input reads as it did. -/
def fnNumsUptoRow : OpenClaim := { program := "yteljfdhjbnlgoaa", sum := "3a9812d0ab2ebdbb18b09623e576bb655a55a7e63c3cd68dfdfc4124f387ae53", func := "loop.example/g00259/laws.FnNums", spec := "fnNums", apart := false, narrowed := true }
def FnNumsUptoSaid : Prop := fnNumsUptoRow.holds Try.pinned (OpenSpec.upto fnNumsSpec)

/-- 'laws.FnPieces', WHERE WHAT IT READS IS OF BULK AT MOST 1048576: true; the input reads as it did. -/
def fnPiecesUptoRow : OpenClaim := { program := "yteljfdhjbnlgoaa", sum := "3a9812d0ab2ebdbb18b09623e576bb655a55a7e63c3cd68dfdfc4124f387ae53", func := "loop.example/g00259/laws.FnPieces", spec := "fnPieces", apart := false, narrowed := true }
def FnPiecesUptoSaid : Prop := fnPiecesUptoRow.holds Try.pinned (OpenSpec.upto fnPiecesSpec)

/-- 'laws.FnExactPlacesFind', WHERE WHAT IT READS IS OF BULK AT MOST 1048576: true; the input reads as it did. -/
def fnExactPlacesFindUptoRow : OpenClaim := { program := "yteljfdhjbnlgoaa", sum := "3a9812d0ab2ebdbb18b09623e576bb655a55a7e63c3cd68dfdfc4124f387ae53", func := "loop.example/g00259/laws.FnExactPlacesFind", spec := "fnExactPlacesFind", inPlace := ["internal/bytealg.abigen_runtime_cmpstring"], unfollowed := true, recurses := true, apart := false, narrowed := true }
def FnExactPlacesFindUptoSaid : Prop := fnExactPlacesFindUptoRow.holds Try.pinned (OpenSpec.upto fnExactPlacesFindSpec)

/-- 'laws.FnExactDriveRead', WHERE WHAT IT READS IS OF BULK AT MOST 1048576: true; the input reads as it did. -/
def fnExactDriveReadUptoRow : OpenClaim := { program := "yteljfdhjbnlgoaa", sum := "3a9812d0ab2ebdbb18b09623e576bb655a55a7e63c3cd68dfdfc4124f387ae53", func := "loop.example/g00259/laws.FnExactDriveRead", spec := "fnExactDriveRead", inPlace := ["internal/bytealg.abigen_runtime_cmpstring"], unfollowed := true, recurses := true, apart := false, narrowed := true }
def FnExactDriveReadUptoSaid : Prop := fnExactDriveReadUptoRow.holds Try.pinned (OpenSpec.upto fnExactDriveReadSpec)

/-- 'laws.FnExactSnapRead', WHERE WHAT IT READS IS OF BULK AT MOST 1048576: true; the input reads as it did. -/
def fnExactSnapReadUptoRow : OpenClaim := { program := "yteljfdhjbnlgoaa", sum := "3a9812d0ab2ebdbb18b09623e576bb655a55a7e63c3cd68dfdfc4124f387ae53", func := "loop.example/g00259/laws.FnExactSnapRead", spec := "fnExactSnapRead", apart := false, narrowed := true }
def FnExactSnapReadUptoSaid : Prop := fnExactSnapReadUptoRow.holds Try.pinned (OpenSpec.upto fnExactSnapReadSpec)

/-- 'laws.FnExactDriveNames', WHERE WHAT IT READS IS OF BULK AT MOST 1048576: true; the input reads as it did. -/
def fnExactDriveNamesUptoRow : OpenClaim := { program := "yteljfdhjbnlgoaa", sum := "3a9812d0ab2ebdbb18b09623e576bb655a55a7e63c3cd68dfdfc4124f387ae53", func := "loop.example/g00259/laws.FnExactDriveNames", spec := "fnExactDriveNames", apart := false, narrowed := true }
def FnExactDriveNamesUptoSaid : Prop := fnExactDriveNamesUptoRow.holds Try.pinned (OpenSpec.upto fnExactDriveNamesSpec)

/-- 'laws.FnExactArrayRight', WHERE WHAT IT READS IS OF BULK AT MOST 1048576: true; the input reads as it did. -/
def fnExactArrayRightUptoRow : OpenClaim := { program := "yteljfdhjbnlgoaa", sum := "3a9812d0ab2ebdbb18b09623e576bb655a55a7e63c3cd68dfdfc4124f387ae53", func := "loop.example/g00259/laws.FnExactArrayRight", spec := "fnExactArrayRight", unfollowed := true, recurses := true, apart := false, narrowed := true }
def FnExactArrayRightUptoSaid : Prop := fnExactArrayRightUptoRow.holds Try.pinned (OpenSpec.upto fnExactArrayRightSpec)

/-- 'laws.FnExactPlacesBytes', WHERE WHAT IT READS IS OF BULK AT MOST 1048576: true; the input reads as it did. -/
def fnExactPlacesBytesUptoRow : OpenClaim := { program := "yteljfdhjbnlgoaa", sum := "3a9812d0ab2ebdbb18b09623e576bb655a55a7e63c3cd68dfdfc4124f387ae53", func := "loop.example/g00259/laws.FnExactPlacesBytes", spec := "fnExactPlacesBytes", inPlace := ["internal/bytealg.abigen_runtime_cmpstring", "internal/abi.NoEscape"], apart := false, narrowed := true }
def FnExactPlacesBytesUptoSaid : Prop := fnExactPlacesBytesUptoRow.holds Try.pinned (OpenSpec.upto fnExactPlacesBytesSpec)

/-- 'laws.FnExactPlacesDrop', WHERE WHAT IT READS IS OF BULK AT MOST 1048576: true; the input reads as it did. -/
def fnExactPlacesDropUptoRow : OpenClaim := { program := "yteljfdhjbnlgoaa", sum := "3a9812d0ab2ebdbb18b09623e576bb655a55a7e63c3cd68dfdfc4124f387ae53", func := "loop.example/g00259/laws.FnExactPlacesDrop", spec := "fnExactPlacesDrop", inPlace := ["internal/bytealg.abigen_runtime_cmpstring"], unfollowed := true, recurses := true, apart := false, narrowed := true }
def FnExactPlacesDropUptoSaid : Prop := fnExactPlacesDropUptoRow.holds Try.pinned (OpenSpec.upto fnExactPlacesDropSpec)

/-- 'laws.FnExactPlacesRead', WHERE WHAT IT READS IS OF BULK AT MOST 1048576: true; the input reads as it did. -/
def fnExactPlacesReadUptoRow : OpenClaim := { program := "yteljfdhjbnlgoaa", sum := "3a9812d0ab2ebdbb18b09623e576bb655a55a7e63c3cd68dfdfc4124f387ae53", func := "loop.example/g00259/laws.FnExactPlacesRead", spec := "fnExactPlacesRead", inPlace := ["internal/bytealg.abigen_runtime_cmpstring"], apart := false, narrowed := true }
def FnExactPlacesReadUptoSaid : Prop := fnExactPlacesReadUptoRow.holds Try.pinned (OpenSpec.upto fnExactPlacesReadSpec)

end Rows
end Go.Proofs.Yteljfdhjbnlgoaa
