/-
  No cell of these rows narrows 'for every input' (looked for: loops, veiled, ifaces, maps, wideKeys, modest, calm, conditions, laid).
  DERIVED. THE GIVEN ROWS OF THIS SEAT. 5 by the template 'for every input the law returns true; each argument reads behind the call as it read before'; 0 by the template 'total and deterministic' (their statements: YtdbnajnelbebfaaTotals.lean).
  GIVEN WITH THE SEED: the statements are not yours to turn. If you find one false, say at which input.
  Laid BY PROGRAM, IN A SANDBOX (cutbox-rows.mjs): the forced cells as the released guide's own fill.sh prints them over the translation a3e8e22c82b24f0c… (all of the seat's roots in one cut). By AI agents, Wed Nov 11 2026. No macro, syntax, notation, axiom, sorry.
-/
import Derived.Test.YtdbnajnelbebfaaChecked
import GoSem.Claim
import GoSem.ClaimJoined
import GoSem.ClaimMapViews
import Derived.JoinedTies
import Derived.KernelRfl
namespace Go.Proofs.Ytdbnajnelbebfaa
/- THE CELL 'sum', in the pinned program and in every row, IS THE sha256 OF THE DUMP (.gsa) THAT YtdbnajnelbebfaaProg.lean LOADS. Nothing in Lean hashes anything: it is a label: what it is worth is what the hold of that sum in a sandbox is worth. -/
noncomputable def Try.pinned : Pinned := { name := "ytdbnajnelbebfaa", sum := "a3e8e22c82b24f0c3bb6a6bde1048061dfae8d32408e582cacbf3609e398fa85", checked := Try.checked }
namespace Rows
def none {H : Type} : Left H := { results := [], args := [] }

/-- 'laws.FnWhole': WHATEVER THE INPUT: true; the input reads as it did. -/
def fnWholeSpec : ChangeSpec := { name := "fnWhole", fn := fun _ => fun
  | [d1, d2] => { results := [.lit (.bool true)], args := [d1, d2] }
  | _ => none }
def fnWholeRow : OpenClaim := { program := "ytdbnajnelbebfaa", sum := "a3e8e22c82b24f0c3bb6a6bde1048061dfae8d32408e582cacbf3609e398fa85", func := "loop.example/g00259/laws.FnWhole", spec := "fnWhole", unfollowed := true, recurses := true, apart := false }
def FnWholeSaid : Prop := fnWholeRow.holds Try.pinned (OpenSpec.ofChange fnWholeSpec)

/-- ITS FALSE NEIGHBOUR: 'it returns false'. Refute it at one input. -/
def fnWholeWrong : ChangeSpec := { name := "fnWhole", fn := fun _ => fun
  | [d1, d2] => { results := [.lit (.bool false)], args := [d1, d2] }
  | _ => none }
def FnWholeWrongFalsely : Prop := fnWholeRow.holds Try.pinned (OpenSpec.ofChange fnWholeWrong)

/-- 'laws.FnExactPlacesAdd': WHATEVER THE INPUT: true; the input reads as it did. -/
def fnExactPlacesAddSpec : ChangeSpec := { name := "fnExactPlacesAdd", fn := fun _ => fun
  | [d1, d2] => { results := [.lit (.bool true)], args := [d1, d2] }
  | _ => none }
def fnExactPlacesAddRow : OpenClaim := { program := "ytdbnajnelbebfaa", sum := "a3e8e22c82b24f0c3bb6a6bde1048061dfae8d32408e582cacbf3609e398fa85", func := "loop.example/g00259/laws.FnExactPlacesAdd", spec := "fnExactPlacesAdd", inPlace := ["internal/bytealg.abigen_runtime_cmpstring"], unfollowed := true, recurses := true, apart := false }
def FnExactPlacesAddSaid : Prop := fnExactPlacesAddRow.holds Try.pinned (OpenSpec.ofChange fnExactPlacesAddSpec)

/-- ITS FALSE NEIGHBOUR: 'it returns false'. Refute it at one input. -/
def fnExactPlacesAddWrong : ChangeSpec := { name := "fnExactPlacesAdd", fn := fun _ => fun
  | [d1, d2] => { results := [.lit (.bool false)], args := [d1, d2] }
  | _ => none }
def FnExactPlacesAddWrongFalsely : Prop := fnExactPlacesAddRow.holds Try.pinned (OpenSpec.ofChange fnExactPlacesAddWrong)

/-- 'laws.FnPlaces': WHATEVER THE INPUT: true; the input reads as it did. -/
def fnPlacesSpec : ChangeSpec := { name := "fnPlaces", fn := fun _ => fun
  | [d1, d2] => { results := [.lit (.bool true)], args := [d1, d2] }
  | _ => none }
def fnPlacesRow : OpenClaim := { program := "ytdbnajnelbebfaa", sum := "a3e8e22c82b24f0c3bb6a6bde1048061dfae8d32408e582cacbf3609e398fa85", func := "loop.example/g00259/laws.FnPlaces", spec := "fnPlaces", inPlace := ["internal/bytealg.abigen_runtime_cmpstring", "internal/abi.NoEscape"], unfollowed := true, recurses := true, apart := false }
def FnPlacesSaid : Prop := fnPlacesRow.holds Try.pinned (OpenSpec.ofChange fnPlacesSpec)

/-- ITS FALSE NEIGHBOUR: 'it returns false'. Refute it at one input. -/
def fnPlacesWrong : ChangeSpec := { name := "fnPlaces", fn := fun _ => fun
  | [d1, d2] => { results := [.lit (.bool false)], args := [d1, d2] }
  | _ => none }
def FnPlacesWrongFalsely : Prop := fnPlacesRow.holds Try.pinned (OpenSpec.ofChange fnPlacesWrong)

/-- 'laws.FnExactObjectNames': WHATEVER THE INPUT: true; the input reads as it did. -/
def fnExactObjectNamesSpec : ChangeSpec := { name := "fnExactObjectNames", fn := fun _ => fun
  | [d] => { results := [.lit (.bool true)], args := [d] }
  | _ => none }
def fnExactObjectNamesRow : OpenClaim := { program := "ytdbnajnelbebfaa", sum := "a3e8e22c82b24f0c3bb6a6bde1048061dfae8d32408e582cacbf3609e398fa85", func := "loop.example/g00259/laws.FnExactObjectNames", spec := "fnExactObjectNames", unfollowed := true, recurses := true, apart := false }
def FnExactObjectNamesSaid : Prop := fnExactObjectNamesRow.holds Try.pinned (OpenSpec.ofChange fnExactObjectNamesSpec)

/-- ITS FALSE NEIGHBOUR: 'it returns false'. Refute it at one input. -/
def fnExactObjectNamesWrong : ChangeSpec := { name := "fnExactObjectNames", fn := fun _ => fun
  | [d] => { results := [.lit (.bool false)], args := [d] }
  | _ => none }
def FnExactObjectNamesWrongFalsely : Prop := fnExactObjectNamesRow.holds Try.pinned (OpenSpec.ofChange fnExactObjectNamesWrong)

/-- 'laws.FnCode': WHATEVER THE INPUT: true; the input reads as it did. -/
def fnCodeSpec : ChangeSpec := { name := "fnCode", fn := fun _ => fun
  | [d1, d2] => { results := [.lit (.bool true)], args := [d1, d2] }
  | _ => none }
def fnCodeRow : OpenClaim := { program := "ytdbnajnelbebfaa", sum := "a3e8e22c82b24f0c3bb6a6bde1048061dfae8d32408e582cacbf3609e398fa85", func := "loop.example/g00259/laws.FnCode", spec := "fnCode", inPlace := ["internal/abi.NoEscape", "internal/bytealg.MakeNoZero"], unfollowed := true, recurses := true, apart := false }
def FnCodeSaid : Prop := fnCodeRow.holds Try.pinned (OpenSpec.ofChange fnCodeSpec)

/-- ITS FALSE NEIGHBOUR: 'it returns false'. Refute it at one input. -/
def fnCodeWrong : ChangeSpec := { name := "fnCode", fn := fun _ => fun
  | [d1, d2] => { results := [.lit (.bool false)], args := [d1, d2] }
  | _ => none }
def FnCodeWrongFalsely : Prop := fnCodeRow.holds Try.pinned (OpenSpec.ofChange fnCodeWrong)

/- THE SECOND FORM. 'bulk': how many values and letters a reading holds, each counted each time it is reached (what is shared counts as often as it is met; a slice's spare places count too). A statement '..UptoSaid' is the law's where the arguments, and the package variables that the reading takes, are together of bulk at most 1048576: NARROWER than '..Said'. Prove '..Said' where nothing that the law and all that it calls make is longer than what came in: it says more and counts as full. Else prove '..UptoSaid'. A law counts once. -/
mutual
def uptoBulk {H : Type} : DataW H → Nat
  | .lit (.string bytes) => bytes.length + 1
  | .lit _ => 1
  | .nil => 1
  | .ptr d => uptoBulk d + 1
  | .slice elems spare => uptoBulkAll elems + uptoBulkAll spare + 1
  | .agg parts => uptoBulkAll parts + 1
  | .iface _ d => uptoBulk d + 1
  | .map entries => uptoBulkEntries entries + 1
  | .held _ => 1
def uptoBulkAll {H : Type} : List (DataW H) → Nat
  | [] => 0
  | d :: r => uptoBulk d + uptoBulkAll r
def uptoBulkEntries {H : Type} : List (Lit × DataW H) → Nat
  | [] => 0
  | x :: r => uptoBulkEntry x + uptoBulkEntries r
def uptoBulkEntry {H : Type} : Lit × DataW H → Nat
  | (.string bytes, d) => bytes.length + uptoBulk d + 1
  | (_, d) => uptoBulk d + 1
 end
def uptoSmall : (H : Type) → List (DataW H) → Bool := fun _ ds => decide (uptoBulkAll ds ≤ 1048576)
def OpenSpec.upto (s : _root_.Go.ChangeSpec) : _root_.Go.OpenSpec := { _root_.Go.OpenSpec.ofChange s with cond := some uptoSmall }

/-- 'laws.FnWhole', WHERE WHAT IT READS IS OF BULK AT MOST 1048576: true; the input reads as it did. -/
def fnWholeUptoRow : OpenClaim := { program := "ytdbnajnelbebfaa", sum := "a3e8e22c82b24f0c3bb6a6bde1048061dfae8d32408e582cacbf3609e398fa85", func := "loop.example/g00259/laws.FnWhole", spec := "fnWhole", unfollowed := true, recurses := true, apart := false, narrowed := true }
def FnWholeUptoSaid : Prop := fnWholeUptoRow.holds Try.pinned (OpenSpec.upto fnWholeSpec)

/-- 'laws.FnExactPlacesAdd', WHERE WHAT IT READS IS OF BULK AT MOST 1048576: true; the input reads as it did. -/
def fnExactPlacesAddUptoRow : OpenClaim := { program := "ytdbnajnelbebfaa", sum := "a3e8e22c82b24f0c3bb6a6bde1048061dfae8d32408e582cacbf3609e398fa85", func := "loop.example/g00259/laws.FnExactPlacesAdd", spec := "fnExactPlacesAdd", inPlace := ["internal/bytealg.abigen_runtime_cmpstring"], unfollowed := true, recurses := true, apart := false, narrowed := true }
def FnExactPlacesAddUptoSaid : Prop := fnExactPlacesAddUptoRow.holds Try.pinned (OpenSpec.upto fnExactPlacesAddSpec)

/-- 'laws.FnPlaces', WHERE WHAT IT READS IS OF BULK AT MOST 1048576: true; the input reads as it did. -/
def fnPlacesUptoRow : OpenClaim := { program := "ytdbnajnelbebfaa", sum := "a3e8e22c82b24f0c3bb6a6bde1048061dfae8d32408e582cacbf3609e398fa85", func := "loop.example/g00259/laws.FnPlaces", spec := "fnPlaces", inPlace := ["internal/bytealg.abigen_runtime_cmpstring", "internal/abi.NoEscape"], unfollowed := true, recurses := true, apart := false, narrowed := true }
def FnPlacesUptoSaid : Prop := fnPlacesUptoRow.holds Try.pinned (OpenSpec.upto fnPlacesSpec)

/-- 'laws.FnExactObjectNames', WHERE WHAT IT READS IS OF BULK AT MOST 1048576: true; the input reads as it did. -/
def fnExactObjectNamesUptoRow : OpenClaim := { program := "ytdbnajnelbebfaa", sum := "a3e8e22c82b24f0c3bb6a6bde1048061dfae8d32408e582cacbf3609e398fa85", func := "loop.example/g00259/laws.FnExactObjectNames", spec := "fnExactObjectNames", unfollowed := true, recurses := true, apart := false, narrowed := true }
def FnExactObjectNamesUptoSaid : Prop := fnExactObjectNamesUptoRow.holds Try.pinned (OpenSpec.upto fnExactObjectNamesSpec)

/-- 'laws.FnCode', WHERE WHAT IT READS IS OF BULK AT MOST 1048576: true; the input reads as it did. -/
def fnCodeUptoRow : OpenClaim := { program := "ytdbnajnelbebfaa", sum := "a3e8e22c82b24f0c3bb6a6bde1048061dfae8d32408e582cacbf3609e398fa85", func := "loop.example/g00259/laws.FnCode", spec := "fnCode", inPlace := ["internal/abi.NoEscape", "internal/bytealg.MakeNoZero"], unfollowed := true, recurses := true, apart := false, narrowed := true }
def FnCodeUptoSaid : Prop := fnCodeUptoRow.holds Try.pinned (OpenSpec.upto fnCodeSpec)

end Rows
end Go.Proofs.Ytdbnajnelbebfaa
