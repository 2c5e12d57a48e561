/-
  No cell of these rows narrows 'for every input' (looked for: loops, veiled, ifaces, maps, wideKeys, modest, calm, conditions, laid).
  DERIVED. THE GIVEN ROWS OF THIS SEAT. 10 by the template 'for every input the law returns true; each argument reads behind the call as it read before'; 0 by the template 'total and deterministic' (their statements: YtgmdakcfcmkhkaaTotals.lean).
  GIVEN WITH THE SEED: the statements are not yours to turn. If you find one false, say at which input.
  Laid BY PROGRAM, IN A SANDBOX (cutbox-rows.mjs): the forced cells as the released guide's own fill.sh prints them over the translation 362f0c5890eefdd0… (all of the seat's roots in one cut). By AI agents, Wed Nov 11 2026. No macro, syntax, notation, axiom, sorry.
-/
import Derived.Test.YtgmdakcfcmkhkaaChecked
import GoSem.Claim
import GoSem.ClaimJoined
import GoSem.ClaimMapViews
import Derived.JoinedTies
import Derived.KernelRfl
namespace Go.Proofs.Ytgmdakcfcmkhkaa
/- THE CELL 'sum', in the pinned program and in every row, IS THE sha256 OF THE DUMP (.gsa) THAT YtgmdakcfcmkhkaaProg.lean LOADS. Nothing in Lean hashes anything: it is a label: what it is worth is what the hold of that sum in a sandbox is worth. -/
noncomputable def Try.pinned : Pinned := { name := "ytgmdakcfcmkhkaa", sum := "362f0c5890eefdd0847b48302a18c99b4ce4d6386441de2946c855ee5215ed08", checked := Try.checked }
namespace Rows
def none {H : Type} : Left H := { results := [], args := [] }

/-- 'laws.FnExactPolicyRight': WHATEVER THE INPUT: true; the input reads as it did. -/
def fnExactPolicyRightSpec : ChangeSpec := { name := "fnExactPolicyRight", fn := fun _ => fun
  | [d] => { results := [.lit (.bool true)], args := [d] }
  | _ => none }
def fnExactPolicyRightRow : OpenClaim := { program := "ytgmdakcfcmkhkaa", sum := "362f0c5890eefdd0847b48302a18c99b4ce4d6386441de2946c855ee5215ed08", func := "loop.example/g00259/laws.FnExactPolicyRight", spec := "fnExactPolicyRight", apart := false }
def FnExactPolicyRightSaid : Prop := fnExactPolicyRightRow.holds Try.pinned (OpenSpec.ofChange fnExactPolicyRightSpec)

/-- ITS FALSE NEIGHBOUR: 'it returns false'. Refute it at one input. -/
def fnExactPolicyRightWrong : ChangeSpec := { name := "fnExactPolicyRight", fn := fun _ => fun
  | [d] => { results := [.lit (.bool false)], args := [d] }
  | _ => none }
def FnExactPolicyRightWrongFalsely : Prop := fnExactPolicyRightRow.holds Try.pinned (OpenSpec.ofChange fnExactPolicyRightWrong)

/-- 'laws.FnExactObjectRight': WHATEVER THE INPUT: true; the input reads as it did. -/
def fnExactObjectRightSpec : ChangeSpec := { name := "fnExactObjectRight", fn := fun _ => fun
  | [d] => { results := [.lit (.bool true)], args := [d] }
  | _ => none }
def fnExactObjectRightRow : OpenClaim := { program := "ytgmdakcfcmkhkaa", sum := "362f0c5890eefdd0847b48302a18c99b4ce4d6386441de2946c855ee5215ed08", func := "loop.example/g00259/laws.FnExactObjectRight", spec := "fnExactObjectRight", apart := false }
def FnExactObjectRightSaid : Prop := fnExactObjectRightRow.holds Try.pinned (OpenSpec.ofChange fnExactObjectRightSpec)

/-- ITS FALSE NEIGHBOUR: 'it returns false'. Refute it at one input. -/
def fnExactObjectRightWrong : ChangeSpec := { name := "fnExactObjectRight", fn := fun _ => fun
  | [d] => { results := [.lit (.bool false)], args := [d] }
  | _ => none }
def FnExactObjectRightWrongFalsely : Prop := fnExactObjectRightRow.holds Try.pinned (OpenSpec.ofChange fnExactObjectRightWrong)

/-- 'laws.FnExactFrameRight': WHATEVER THE INPUT: true; the input reads as it did. -/
def fnExactFrameRightSpec : ChangeSpec := { name := "fnExactFrameRight", fn := fun _ => fun
  | [d] => { results := [.lit (.bool true)], args := [d] }
  | _ => none }
def fnExactFrameRightRow : OpenClaim := { program := "ytgmdakcfcmkhkaa", sum := "362f0c5890eefdd0847b48302a18c99b4ce4d6386441de2946c855ee5215ed08", func := "loop.example/g00259/laws.FnExactFrameRight", spec := "fnExactFrameRight", apart := false }
def FnExactFrameRightSaid : Prop := fnExactFrameRightRow.holds Try.pinned (OpenSpec.ofChange fnExactFrameRightSpec)

/-- ITS FALSE NEIGHBOUR: 'it returns false'. Refute it at one input. -/
def fnExactFrameRightWrong : ChangeSpec := { name := "fnExactFrameRight", fn := fun _ => fun
  | [d] => { results := [.lit (.bool false)], args := [d] }
  | _ => none }
def FnExactFrameRightWrongFalsely : Prop := fnExactFrameRightRow.holds Try.pinned (OpenSpec.ofChange fnExactFrameRightWrong)

/-- 'laws.FnExactSnapRight': WHATEVER THE INPUT: true; the input reads as it did. -/
def fnExactSnapRightSpec : ChangeSpec := { name := "fnExactSnapRight", fn := fun _ => fun
  | [d] => { results := [.lit (.bool true)], args := [d] }
  | _ => none }
def fnExactSnapRightRow : OpenClaim := { program := "ytgmdakcfcmkhkaa", sum := "362f0c5890eefdd0847b48302a18c99b4ce4d6386441de2946c855ee5215ed08", func := "loop.example/g00259/laws.FnExactSnapRight", spec := "fnExactSnapRight", apart := false }
def FnExactSnapRightSaid : Prop := fnExactSnapRightRow.holds Try.pinned (OpenSpec.ofChange fnExactSnapRightSpec)

/-- ITS FALSE NEIGHBOUR: 'it returns false'. Refute it at one input. -/
def fnExactSnapRightWrong : ChangeSpec := { name := "fnExactSnapRight", fn := fun _ => fun
  | [d] => { results := [.lit (.bool false)], args := [d] }
  | _ => none }
def FnExactSnapRightWrongFalsely : Prop := fnExactSnapRightRow.holds Try.pinned (OpenSpec.ofChange fnExactSnapRightWrong)

/-- 'laws.FnExactOpRight': WHATEVER THE INPUT: true; the input reads as it did. -/
def fnExactOpRightSpec : ChangeSpec := { name := "fnExactOpRight", fn := fun _ => fun
  | [d] => { results := [.lit (.bool true)], args := [d] }
  | _ => none }
def fnExactOpRightRow : OpenClaim := { program := "ytgmdakcfcmkhkaa", sum := "362f0c5890eefdd0847b48302a18c99b4ce4d6386441de2946c855ee5215ed08", func := "loop.example/g00259/laws.FnExactOpRight", spec := "fnExactOpRight", apart := false }
def FnExactOpRightSaid : Prop := fnExactOpRightRow.holds Try.pinned (OpenSpec.ofChange fnExactOpRightSpec)

/-- ITS FALSE NEIGHBOUR: 'it returns false'. Refute it at one input. -/
def fnExactOpRightWrong : ChangeSpec := { name := "fnExactOpRight", fn := fun _ => fun
  | [d] => { results := [.lit (.bool false)], args := [d] }
  | _ => none }
def FnExactOpRightWrongFalsely : Prop := fnExactOpRightRow.holds Try.pinned (OpenSpec.ofChange fnExactOpRightWrong)

/-- 'laws.FnExactSnapBytes': WHATEVER THE INPUT: true; the input reads as it did. -/
def fnExactSnapBytesSpec : ChangeSpec := { name := "fnExactSnapBytes", fn := fun _ => fun
  | [d] => { results := [.lit (.bool true)], args := [d] }
  | _ => none }
def fnExactSnapBytesRow : OpenClaim := { program := "ytgmdakcfcmkhkaa", sum := "362f0c5890eefdd0847b48302a18c99b4ce4d6386441de2946c855ee5215ed08", func := "loop.example/g00259/laws.FnExactSnapBytes", spec := "fnExactSnapBytes", apart := false }
def FnExactSnapBytesSaid : Prop := fnExactSnapBytesRow.holds Try.pinned (OpenSpec.ofChange fnExactSnapBytesSpec)

/-- ITS FALSE NEIGHBOUR: 'it returns false'. Refute it at one input. -/
def fnExactSnapBytesWrong : ChangeSpec := { name := "fnExactSnapBytes", fn := fun _ => fun
  | [d] => { results := [.lit (.bool false)], args := [d] }
  | _ => none }
def FnExactSnapBytesWrongFalsely : Prop := fnExactSnapBytesRow.holds Try.pinned (OpenSpec.ofChange fnExactSnapBytesWrong)

/-- 'laws.FnExactSnapsRight': WHATEVER THE INPUT: true; the input reads as it did. -/
def fnExactSnapsRightSpec : ChangeSpec := { name := "fnExactSnapsRight", fn := fun _ => fun
  | [d] => { results := [.lit (.bool true)], args := [d] }
  | _ => none }
def fnExactSnapsRightRow : OpenClaim := { program := "ytgmdakcfcmkhkaa", sum := "362f0c5890eefdd0847b48302a18c99b4ce4d6386441de2946c855ee5215ed08", func := "loop.example/g00259/laws.FnExactSnapsRight", spec := "fnExactSnapsRight", apart := false }
def FnExactSnapsRightSaid : Prop := fnExactSnapsRightRow.holds Try.pinned (OpenSpec.ofChange fnExactSnapsRightSpec)

/-- ITS FALSE NEIGHBOUR: 'it returns false'. Refute it at one input. -/
def fnExactSnapsRightWrong : ChangeSpec := { name := "fnExactSnapsRight", fn := fun _ => fun
  | [d] => { results := [.lit (.bool false)], args := [d] }
  | _ => none }
def FnExactSnapsRightWrongFalsely : Prop := fnExactSnapsRightRow.holds Try.pinned (OpenSpec.ofChange fnExactSnapsRightWrong)

/-- 'laws.FnExactDriveRight': WHATEVER THE INPUT: true; the input reads as it did. -/
def fnExactDriveRightSpec : ChangeSpec := { name := "fnExactDriveRight", fn := fun _ => fun
  | [d] => { results := [.lit (.bool true)], args := [d] }
  | _ => none }
def fnExactDriveRightRow : OpenClaim := { program := "ytgmdakcfcmkhkaa", sum := "362f0c5890eefdd0847b48302a18c99b4ce4d6386441de2946c855ee5215ed08", func := "loop.example/g00259/laws.FnExactDriveRight", spec := "fnExactDriveRight", apart := false }
def FnExactDriveRightSaid : Prop := fnExactDriveRightRow.holds Try.pinned (OpenSpec.ofChange fnExactDriveRightSpec)

/-- ITS FALSE NEIGHBOUR: 'it returns false'. Refute it at one input. -/
def fnExactDriveRightWrong : ChangeSpec := { name := "fnExactDriveRight", fn := fun _ => fun
  | [d] => { results := [.lit (.bool false)], args := [d] }
  | _ => none }
def FnExactDriveRightWrongFalsely : Prop := fnExactDriveRightRow.holds Try.pinned (OpenSpec.ofChange fnExactDriveRightWrong)

/-- 'laws.FnExactPlacesRight': WHATEVER THE INPUT: true; the input reads as it did. -/
def fnExactPlacesRightSpec : ChangeSpec := { name := "fnExactPlacesRight", fn := fun _ => fun
  | [d] => { results := [.lit (.bool true)], args := [d] }
  | _ => none }
def fnExactPlacesRightRow : OpenClaim := { program := "ytgmdakcfcmkhkaa", sum := "362f0c5890eefdd0847b48302a18c99b4ce4d6386441de2946c855ee5215ed08", func := "loop.example/g00259/laws.FnExactPlacesRight", spec := "fnExactPlacesRight", inPlace := ["internal/bytealg.abigen_runtime_cmpstring"], apart := false }
def FnExactPlacesRightSaid : Prop := fnExactPlacesRightRow.holds Try.pinned (OpenSpec.ofChange fnExactPlacesRightSpec)

/-- ITS FALSE NEIGHBOUR: 'it returns false'. Refute it at one input. -/
def fnExactPlacesRightWrong : ChangeSpec := { name := "fnExactPlacesRight", fn := fun _ => fun
  | [d] => { results := [.lit (.bool false)], args := [d] }
  | _ => none }
def FnExactPlacesRightWrongFalsely : Prop := fnExactPlacesRightRow.holds Try.pinned (OpenSpec.ofChange fnExactPlacesRightWrong)

/-- 'laws.FnExactNodesRight': WHATEVER THE INPUT: true; the input reads as it did. -/
def fnExactNodesRightSpec : ChangeSpec := { name := "fnExactNodesRight", fn := fun _ => fun
  | [d] => { results := [.lit (.bool true)], args := [d] }
  | _ => none }
def fnExactNodesRightRow : OpenClaim := { program := "ytgmdakcfcmkhkaa", sum := "362f0c5890eefdd0847b48302a18c99b4ce4d6386441de2946c855ee5215ed08", func := "loop.example/g00259/laws.FnExactNodesRight", spec := "fnExactNodesRight", unfollowed := true, recurses := true, apart := false }
def FnExactNodesRightSaid : Prop := fnExactNodesRightRow.holds Try.pinned (OpenSpec.ofChange fnExactNodesRightSpec)

/-- ITS FALSE NEIGHBOUR: 'it returns false'. Refute it at one input. -/
def fnExactNodesRightWrong : ChangeSpec := { name := "fnExactNodesRight", fn := fun _ => fun
  | [d] => { results := [.lit (.bool false)], args := [d] }
  | _ => none }
def FnExactNodesRightWrongFalsely : Prop := fnExactNodesRightRow.holds Try.pinned (OpenSpec.ofChange fnExactNodesRightWrong)

/- THE SECOND FORM. 'bulk': how many values and letters a reading holds, each counted each time it is reached (what is shared counts as often as it is met; a slice's spare places count too). A statement '..UptoSaid' is the law's where the arguments, and the package variables that the reading takes, are together of bulk at most 1048576: NARROWER than '..Said'. Prove '..Said' where nothing that the law and all that it calls make is longer than what came in: it says more and counts as full. Else prove '..UptoSaid'. A law counts once. -/
mutual
def uptoBulk {H : Type} : DataW H → Nat
  | .lit (.string bytes) => bytes.length + 1
  | .lit _ => 1
  | .nil => 1
  | .ptr d => uptoBulk d + 1
  | .slice elems spare => uptoBulkAll elems + uptoBulkAll spare + 1
  | .agg parts => uptoBulkAll parts + 1
  | .iface _ d => uptoBulk d + 1
  | .map entries => uptoBulkEntries entries + 1
  | .held _ => 1
def uptoBulkAll {H : Type} : List (DataW H) → Nat
  | [] => 0
  | d :: r => uptoBulk d + uptoBulkAll r
def uptoBulkEntries {H : Type} : List (Lit × DataW H) → Nat
  | [] => 0
  | x :: r => uptoBulkEntry x + uptoBulkEntries r
def uptoBulkEntry {H : Type} : Lit × DataW H → Nat
  | (.string bytes, d) => bytes.length + uptoBulk d + 1
  | (_, d) => uptoBulk d + 1
 end
def uptoSmall : (H : Type) → List (DataW H) → Bool := fun _ ds => decide (uptoBulkAll ds ≤ 1048576)
def OpenSpec.upto (s : _root_.Go.ChangeSpec) : _root_.Go.OpenSpec := { _root_.Go.OpenSpec.ofChange s with cond := some uptoSmall }

/-- 'laws.FnExactPolicyRight', WHERE WHAT IT READS IS OF BULK AT MOST 1048576: true; the input reads as it did. -/
def fnExactPolicyRightUptoRow : OpenClaim := { program := "ytgmdakcfcmkhkaa", sum := "362f0c5890eefdd0847b48302a18c99b4ce4d6386441de2946c855ee5215ed08", func := "loop.example/g00259/laws.FnExactPolicyRight", spec := "fnExactPolicyRight", apart := false, narrowed := true }
def FnExactPolicyRightUptoSaid : Prop := fnExactPolicyRightUptoRow.holds Try.pinned (OpenSpec.upto fnExactPolicyRightSpec)

/-- 'laws.FnExactObjectRight', WHERE WHAT IT READS IS OF BULK AT MOST 1048576: true; the input reads as it did. -/
def fnExactObjectRightUptoRow : OpenClaim := { program := "ytgmdakcfcmkhkaa", sum := "362f0c5890eefdd0847b48302a18c99b4ce4d6386441de2946c855ee5215ed08", func := "loop.example/g00259/laws.FnExactObjectRight", spec := "fnExactObjectRight", apart := false, narrowed := true }
def FnExactObjectRightUptoSaid : Prop := fnExactObjectRightUptoRow.holds Try.pinned (OpenSpec.upto fnExactObjectRightSpec)

/-- 'laws.FnExactFrameRight', WHERE WHAT IT READS IS OF BULK AT MOST 1048576: true; the input reads as it did. -/
def fnExactFrameRightUptoRow : OpenClaim := { program := "ytgmdakcfcmkhkaa", sum := "362f0c5890eefdd0847b48302a18c99b4ce4d6386441de2946c855ee5215ed08", func := "loop.example/g00259/laws.FnExactFrameRight", spec := "fnExactFrameRight", apart := false, narrowed := true }
def FnExactFrameRightUptoSaid : Prop := fnExactFrameRightUptoRow.holds Try.pinned (OpenSpec.upto fnExactFrameRightSpec)

/-- 'laws.FnExactSnapRight', WHERE WHAT IT READS IS OF BULK AT MOST 1048576: true; the input reads as it did. -/
def fnExactSnapRightUptoRow : OpenClaim := { program := "ytgmdakcfcmkhkaa", sum := "362f0c5890eefdd0847b48302a18c99b4ce4d6386441de2946c855ee5215ed08", func := "loop.example/g00259/laws.FnExactSnapRight", spec := "fnExactSnapRight", apart := false, narrowed := true }
def FnExactSnapRightUptoSaid : Prop := fnExactSnapRightUptoRow.holds Try.pinned (OpenSpec.upto fnExactSnapRightSpec)

/-- 'laws.FnExactOpRight', WHERE WHAT IT READS IS OF BULK AT MOST 1048576: true; the input reads as it did. -/
def fnExactOpRightUptoRow : OpenClaim := { program := "ytgmdakcfcmkhkaa", sum := "362f0c5890eefdd0847b48302a18c99b4ce4d6386441de2946c855ee5215ed08", func := "loop.example/g00259/laws.FnExactOpRight", spec := "fnExactOpRight", apart := false, narrowed := true }
def FnExactOpRightUptoSaid : Prop := fnExactOpRightUptoRow.holds Try.pinned (OpenSpec.upto fnExactOpRightSpec)

/-- 'laws.FnExactSnapBytes', WHERE WHAT IT READS IS OF BULK AT MOST 1048576: true; the input reads as it did. -/
def fnExactSnapBytesUptoRow : OpenClaim := { program := "ytgmdakcfcmkhkaa", sum := "362f0c5890eefdd0847b48302a18c99b4ce4d6386441de2946c855ee5215ed08", func := "loop.example/g00259/laws.FnExactSnapBytes", spec := "fnExactSnapBytes", apart := false, narrowed := true }
def FnExactSnapBytesUptoSaid : Prop := fnExactSnapBytesUptoRow.holds Try.pinned (OpenSpec.upto fnExactSnapBytesSpec)

/-- 'laws.FnExactSnapsRight', WHERE WHAT IT READS IS OF BULK AT MOST 1048576: true; the input reads as it did. -/
def fnExactSnapsRightUptoRow : OpenClaim := { program := "ytgmdakcfcmkhkaa", sum := "362f0c5890eefdd0847b48302a18c99b4ce4d6386441de2946c855ee5215ed08", func := "loop.example/g00259/laws.FnExactSnapsRight", spec := "fnExactSnapsRight", apart := false, narrowed := true }
def FnExactSnapsRightUptoSaid : Prop := fnExactSnapsRightUptoRow.holds Try.pinned (OpenSpec.upto fnExactSnapsRightSpec)

/-- 'laws.FnExactDriveRight', WHERE WHAT IT READS IS OF BULK AT MOST 1048576: true; the input reads as it did. -/
def fnExactDriveRightUptoRow : OpenClaim := { program := "ytgmdakcfcmkhkaa", sum := "362f0c5890eefdd0847b48302a18c99b4ce4d6386441de2946c855ee5215ed08", func := "loop.example/g00259/laws.FnExactDriveRight", spec := "fnExactDriveRight", apart := false, narrowed := true }
def FnExactDriveRightUptoSaid : Prop := fnExactDriveRightUptoRow.holds Try.pinned (OpenSpec.upto fnExactDriveRightSpec)

/-- 'laws.FnExactPlacesRight', WHERE WHAT IT READS IS OF BULK AT MOST 1048576: true; the input reads as it did. -/
def fnExactPlacesRightUptoRow : OpenClaim := { program := "ytgmdakcfcmkhkaa", sum := "362f0c5890eefdd0847b48302a18c99b4ce4d6386441de2946c855ee5215ed08", func := "loop.example/g00259/laws.FnExactPlacesRight", spec := "fnExactPlacesRight", inPlace := ["internal/bytealg.abigen_runtime_cmpstring"], apart := false, narrowed := true }
def FnExactPlacesRightUptoSaid : Prop := fnExactPlacesRightUptoRow.holds Try.pinned (OpenSpec.upto fnExactPlacesRightSpec)

/-- 'laws.FnExactNodesRight', WHERE WHAT IT READS IS OF BULK AT MOST 1048576: true; the input reads as it did. -/
def fnExactNodesRightUptoRow : OpenClaim := { program := "ytgmdakcfcmkhkaa", sum := "362f0c5890eefdd0847b48302a18c99b4ce4d6386441de2946c855ee5215ed08", func := "loop.example/g00259/laws.FnExactNodesRight", spec := "fnExactNodesRight", unfollowed := true, recurses := true, apart := false, narrowed := true }
def FnExactNodesRightUptoSaid : Prop := fnExactNodesRightUptoRow.holds Try.pinned (OpenSpec.upto fnExactNodesRightSpec)

end Rows
end Go.Proofs.Ytgmdakcfcmkhkaa
