/-
  NARROWER THAN 'FOR EVERY INPUT', by the rows' own cells (each row's printed sentence says how): FnExactPackName: laid · FnExactFrameBytes: laid · FnExactFilesRight: laid · FnHash: laid · FnExactFrameRead: laid · FnExactPackScan: laid · FnScan: laid · FnFrame: laid.
  DERIVED. THE GIVEN ROWS OF THIS SEAT. 8 by the template 'for every input the law returns true; each argument reads behind the call as it read before'; 0 by the template 'total and deterministic' (their statements: YtddapeieolfolaaDoorTotals.lean).
  GIVEN WITH THE SEED: the statements are not yours to turn. If you find one false, say at which input.
  Laid BY PROGRAM, IN A SANDBOX (cutbox-rows.mjs): the forced cells as the released guide's own fill.sh prints them over the translation 8c7ac9a61e0e6d5e… (all of the seat's roots in one cut). By AI agents, Wed Nov 11 2026. No macro, syntax, notation, axiom, sorry.
-/
import Derived.Test.YtddapeieolfolaaDoorChecked
import GoSem.PinnedTables
import GoSem.Claim
import GoSem.ClaimJoined
import GoSem.ClaimMapViews
import Derived.JoinedTies
import Derived.KernelRfl
namespace Go.Proofs.YtddapeieolfolaaDoor
/- THE CELL 'sum', in the pinned program and in every row, IS THE sha256 OF THE DUMP (.gsa) THAT YtddapeieolfolaaDoorProg.lean LOADS. Nothing in Lean hashes anything: it is a label: what it is worth is what the hold of that sum in a sandbox is worth. -/
noncomputable def Tryd.pinned : Pinned := { name := "ytddapeieolfolaadoor", sum := "8c7ac9a61e0e6d5e4bf775106b7fe4c9a047c1a410bc55d3be1e41d77d8bc99f", checked := Tryd.checked }
namespace Rows
def none {H : Type} : Left H := { results := [], args := [] }

/- WHAT THE LISTED PACKAGE-LEVEL VARIABLES READ AS WHEN THE CALL BEGINS. Each datum BY PROGRAM (the guide's laid-datum.mjs) off the statement by which the dump's own 'gosem.cut.vars' lays the variable. In a bare row this is a premise. The card (YtddapeieolfolaaDoorCards.lean) ties it to the program's text. -/
def laid_loop_example_g00259_impl_firstState {H : Type} : DataW H := .agg [.lit (.int .u32 1779033703), .lit (.int .u32 3144134277), .lit (.int .u32 1013904242), .lit (.int .u32 2773480762), .lit (.int .u32 1359893119), .lit (.int .u32 2600822924), .lit (.int .u32 528734635), .lit (.int .u32 1541459225)]
def laid_loop_example_g00259_impl_roots {H : Type} : DataW H := .agg [.lit (.int .u32 1116352408), .lit (.int .u32 1899447441), .lit (.int .u32 3049323471), .lit (.int .u32 3921009573), .lit (.int .u32 961987163), .lit (.int .u32 1508970993), .lit (.int .u32 2453635748), .lit (.int .u32 2870763221), .lit (.int .u32 3624381080), .lit (.int .u32 310598401), .lit (.int .u32 607225278), .lit (.int .u32 1426881987), .lit (.int .u32 1925078388), .lit (.int .u32 2162078206), .lit (.int .u32 2614888103), .lit (.int .u32 3248222580), .lit (.int .u32 3835390401), .lit (.int .u32 4022224774), .lit (.int .u32 264347078), .lit (.int .u32 604807628), .lit (.int .u32 770255983), .lit (.int .u32 1249150122), .lit (.int .u32 1555081692), .lit (.int .u32 1996064986), .lit (.int .u32 2554220882), .lit (.int .u32 2821834349), .lit (.int .u32 2952996808), .lit (.int .u32 3210313671), .lit (.int .u32 3336571891), .lit (.int .u32 3584528711), .lit (.int .u32 113926993), .lit (.int .u32 338241895), .lit (.int .u32 666307205), .lit (.int .u32 773529912), .lit (.int .u32 1294757372), .lit (.int .u32 1396182291), .lit (.int .u32 1695183700), .lit (.int .u32 1986661051), .lit (.int .u32 2177026350), .lit (.int .u32 2456956037), .lit (.int .u32 2730485921), .lit (.int .u32 2820302411), .lit (.int .u32 3259730800), .lit (.int .u32 3345764771), .lit (.int .u32 3516065817), .lit (.int .u32 3600352804), .lit (.int .u32 4094571909), .lit (.int .u32 275423344), .lit (.int .u32 430227734), .lit (.int .u32 506948616), .lit (.int .u32 659060556), .lit (.int .u32 883997877), .lit (.int .u32 958139571), .lit (.int .u32 1322822218), .lit (.int .u32 1537002063), .lit (.int .u32 1747873779), .lit (.int .u32 1955562222), .lit (.int .u32 2024104815), .lit (.int .u32 2227730452), .lit (.int .u32 2361852424), .lit (.int .u32 2428436474), .lit (.int .u32 2756734187), .lit (.int .u32 3204031479), .lit (.int .u32 3329325298)]
def laid_unicode_utf8_acceptRanges {H : Type} : DataW H := .agg [.agg [.lit (.int .u8 128), .lit (.int .u8 191)], .agg [.lit (.int .u8 160), .lit (.int .u8 191)], .agg [.lit (.int .u8 128), .lit (.int .u8 159)], .agg [.lit (.int .u8 144), .lit (.int .u8 191)], .agg [.lit (.int .u8 128), .lit (.int .u8 143)], .agg [.lit (.int .u8 0), .lit (.int .u8 0)], .agg [.lit (.int .u8 0), .lit (.int .u8 0)], .agg [.lit (.int .u8 0), .lit (.int .u8 0)], .agg [.lit (.int .u8 0), .lit (.int .u8 0)], .agg [.lit (.int .u8 0), .lit (.int .u8 0)], .agg [.lit (.int .u8 0), .lit (.int .u8 0)], .agg [.lit (.int .u8 0), .lit (.int .u8 0)], .agg [.lit (.int .u8 0), .lit (.int .u8 0)], .agg [.lit (.int .u8 0), .lit (.int .u8 0)], .agg [.lit (.int .u8 0), .lit (.int .u8 0)], .agg [.lit (.int .u8 0), .lit (.int .u8 0)]]
/-- One of Go's own tables, pinned by name: the form's constant. -/
def laid_unicode_utf8_first : DataW Unit := Go.Pinned.utf8First

/-- 'laws.FnExactPackName': WHATEVER THE INPUT: true; the input reads as it did. -/
def fnExactPackNameSpec : ChangeSpec := { name := "fnExactPackName", vars := ["loop.example/g00259/impl.firstState", "loop.example/g00259/impl.roots"], fn := fun _ => fun
  | [d, g1, g2] => { results := [.lit (.bool true)], args := [d], vars := [g1, g2] }
  | _ => none }
def fnExactPackNameRow : OpenClaim := { program := "ytddapeieolfolaadoor", sum := "8c7ac9a61e0e6d5e4bf775106b7fe4c9a047c1a410bc55d3be1e41d77d8bc99f", func := "loop.example/g00259/laws.FnExactPackName", spec := "fnExactPackName", inPlace := ["internal/abi.NoEscape", "internal/bytealg.MakeNoZero"], named := ["loop.example/g00259/impl.firstState", "loop.example/g00259/impl.roots"], apart := false, laid := [("loop.example/g00259/impl.firstState", laid_loop_example_g00259_impl_firstState), ("loop.example/g00259/impl.roots", laid_loop_example_g00259_impl_roots)] }
def FnExactPackNameSaid : Prop := fnExactPackNameRow.holds Tryd.pinned (OpenSpec.ofChange fnExactPackNameSpec)

/-- ITS FALSE NEIGHBOUR: 'it returns false'. Refute it at one input. -/
def fnExactPackNameWrong : ChangeSpec := { name := "fnExactPackName", vars := ["loop.example/g00259/impl.firstState", "loop.example/g00259/impl.roots"], fn := fun _ => fun
  | [d, g1, g2] => { results := [.lit (.bool false)], args := [d], vars := [g1, g2] }
  | _ => none }
def FnExactPackNameWrongFalsely : Prop := fnExactPackNameRow.holds Tryd.pinned (OpenSpec.ofChange fnExactPackNameWrong)

/-- 'laws.FnExactFrameBytes': WHATEVER THE INPUT: true; the input reads as it did. -/
def fnExactFrameBytesSpec : ChangeSpec := { name := "fnExactFrameBytes", vars := ["loop.example/g00259/impl.firstState", "loop.example/g00259/impl.roots"], fn := fun _ => fun
  | [d, g1, g2] => { results := [.lit (.bool true)], args := [d], vars := [g1, g2] }
  | _ => none }
def fnExactFrameBytesRow : OpenClaim := { program := "ytddapeieolfolaadoor", sum := "8c7ac9a61e0e6d5e4bf775106b7fe4c9a047c1a410bc55d3be1e41d77d8bc99f", func := "loop.example/g00259/laws.FnExactFrameBytes", spec := "fnExactFrameBytes", inPlace := ["internal/abi.NoEscape", "internal/bytealg.MakeNoZero"], named := ["loop.example/g00259/impl.firstState", "loop.example/g00259/impl.roots"], apart := false, laid := [("loop.example/g00259/impl.firstState", laid_loop_example_g00259_impl_firstState), ("loop.example/g00259/impl.roots", laid_loop_example_g00259_impl_roots)] }
def FnExactFrameBytesSaid : Prop := fnExactFrameBytesRow.holds Tryd.pinned (OpenSpec.ofChange fnExactFrameBytesSpec)

/-- ITS FALSE NEIGHBOUR: 'it returns false'. Refute it at one input. -/
def fnExactFrameBytesWrong : ChangeSpec := { name := "fnExactFrameBytes", vars := ["loop.example/g00259/impl.firstState", "loop.example/g00259/impl.roots"], fn := fun _ => fun
  | [d, g1, g2] => { results := [.lit (.bool false)], args := [d], vars := [g1, g2] }
  | _ => none }
def FnExactFrameBytesWrongFalsely : Prop := fnExactFrameBytesRow.holds Tryd.pinned (OpenSpec.ofChange fnExactFrameBytesWrong)

/-- 'laws.FnExactFilesRight': WHATEVER THE INPUT: true; the input reads as it did. -/
def fnExactFilesRightSpec : ChangeSpec := { name := "fnExactFilesRight", fn := fun _ => fun
  | [d] => { results := [.lit (.bool true)], args := [d] }
  | _ => none }
def fnExactFilesRightRow : OpenClaim := { program := "ytddapeieolfolaadoor", sum := "8c7ac9a61e0e6d5e4bf775106b7fe4c9a047c1a410bc55d3be1e41d77d8bc99f", func := "loop.example/g00259/laws.FnExactFilesRight", spec := "fnExactFilesRight", inPlace := ["internal/bytealg.CountString", "internal/bytealg.IndexByteString", "internal/bytealg.IndexString"], unfollowed := true, recurses := true, named := ["unicode/utf8.first", "unicode/utf8.acceptRanges", "internal/bytealg.MaxLen"], apart := false, laid := [("unicode/utf8.acceptRanges", laid_unicode_utf8_acceptRanges), ("unicode/utf8.first", laid_unicode_utf8_first)] }
def FnExactFilesRightSaid : Prop := fnExactFilesRightRow.holds Tryd.pinned (OpenSpec.ofChange fnExactFilesRightSpec)

/-- ITS FALSE NEIGHBOUR: 'it returns false'. Refute it at one input. -/
def fnExactFilesRightWrong : ChangeSpec := { name := "fnExactFilesRight", fn := fun _ => fun
  | [d] => { results := [.lit (.bool false)], args := [d] }
  | _ => none }
def FnExactFilesRightWrongFalsely : Prop := fnExactFilesRightRow.holds Tryd.pinned (OpenSpec.ofChange fnExactFilesRightWrong)

/-- 'laws.FnHash': WHATEVER THE INPUT: true; the input reads as it did. -/
def fnHashSpec : ChangeSpec := { name := "fnHash", vars := ["loop.example/g00259/impl.firstState", "loop.example/g00259/impl.roots"], fn := fun _ => fun
  | [d1, d2, g1, g2] => { results := [.lit (.bool true)], args := [d1, d2], vars := [g1, g2] }
  | _ => none }
def fnHashRow : OpenClaim := { program := "ytddapeieolfolaadoor", sum := "8c7ac9a61e0e6d5e4bf775106b7fe4c9a047c1a410bc55d3be1e41d77d8bc99f", func := "loop.example/g00259/laws.FnHash", spec := "fnHash", inPlace := ["internal/abi.NoEscape", "internal/bytealg.MakeNoZero"], unfollowed := true, recurses := true, named := ["loop.example/g00259/impl.firstState", "loop.example/g00259/impl.roots"], apart := false, laid := [("loop.example/g00259/impl.firstState", laid_loop_example_g00259_impl_firstState), ("loop.example/g00259/impl.roots", laid_loop_example_g00259_impl_roots)] }
def FnHashSaid : Prop := fnHashRow.holds Tryd.pinned (OpenSpec.ofChange fnHashSpec)

/-- ITS FALSE NEIGHBOUR: 'it returns false'. Refute it at one input. -/
def fnHashWrong : ChangeSpec := { name := "fnHash", vars := ["loop.example/g00259/impl.firstState", "loop.example/g00259/impl.roots"], fn := fun _ => fun
  | [d1, d2, g1, g2] => { results := [.lit (.bool false)], args := [d1, d2], vars := [g1, g2] }
  | _ => none }
def FnHashWrongFalsely : Prop := fnHashRow.holds Tryd.pinned (OpenSpec.ofChange fnHashWrong)

/-- 'laws.FnExactFrameRead': WHATEVER THE INPUT: true; the input reads as it did. -/
def fnExactFrameReadSpec : ChangeSpec := { name := "fnExactFrameRead", vars := ["loop.example/g00259/impl.firstState", "loop.example/g00259/impl.roots"], fn := fun _ => fun
  | [d, g1, g2] => { results := [.lit (.bool true)], args := [d], vars := [g1, g2] }
  | _ => none }
def fnExactFrameReadRow : OpenClaim := { program := "ytddapeieolfolaadoor", sum := "8c7ac9a61e0e6d5e4bf775106b7fe4c9a047c1a410bc55d3be1e41d77d8bc99f", func := "loop.example/g00259/laws.FnExactFrameRead", spec := "fnExactFrameRead", inPlace := ["internal/abi.NoEscape", "internal/bytealg.MakeNoZero"], named := ["loop.example/g00259/impl.firstState", "loop.example/g00259/impl.roots"], apart := false, laid := [("loop.example/g00259/impl.firstState", laid_loop_example_g00259_impl_firstState), ("loop.example/g00259/impl.roots", laid_loop_example_g00259_impl_roots)] }
def FnExactFrameReadSaid : Prop := fnExactFrameReadRow.holds Tryd.pinned (OpenSpec.ofChange fnExactFrameReadSpec)

/-- ITS FALSE NEIGHBOUR: 'it returns false'. Refute it at one input. -/
def fnExactFrameReadWrong : ChangeSpec := { name := "fnExactFrameRead", vars := ["loop.example/g00259/impl.firstState", "loop.example/g00259/impl.roots"], fn := fun _ => fun
  | [d, g1, g2] => { results := [.lit (.bool false)], args := [d], vars := [g1, g2] }
  | _ => none }
def FnExactFrameReadWrongFalsely : Prop := fnExactFrameReadRow.holds Tryd.pinned (OpenSpec.ofChange fnExactFrameReadWrong)

/-- 'laws.FnExactPackScan': WHATEVER THE INPUT: true; the input reads as it did. -/
def fnExactPackScanSpec : ChangeSpec := { name := "fnExactPackScan", vars := ["loop.example/g00259/impl.firstState", "loop.example/g00259/impl.roots"], fn := fun _ => fun
  | [d, g1, g2] => { results := [.lit (.bool true)], args := [d], vars := [g1, g2] }
  | _ => none }
def fnExactPackScanRow : OpenClaim := { program := "ytddapeieolfolaadoor", sum := "8c7ac9a61e0e6d5e4bf775106b7fe4c9a047c1a410bc55d3be1e41d77d8bc99f", func := "loop.example/g00259/laws.FnExactPackScan", spec := "fnExactPackScan", inPlace := ["internal/abi.NoEscape", "internal/bytealg.MakeNoZero"], named := ["loop.example/g00259/impl.firstState", "loop.example/g00259/impl.roots"], apart := false, laid := [("loop.example/g00259/impl.firstState", laid_loop_example_g00259_impl_firstState), ("loop.example/g00259/impl.roots", laid_loop_example_g00259_impl_roots)] }
def FnExactPackScanSaid : Prop := fnExactPackScanRow.holds Tryd.pinned (OpenSpec.ofChange fnExactPackScanSpec)

/-- ITS FALSE NEIGHBOUR: 'it returns false'. Refute it at one input. -/
def fnExactPackScanWrong : ChangeSpec := { name := "fnExactPackScan", vars := ["loop.example/g00259/impl.firstState", "loop.example/g00259/impl.roots"], fn := fun _ => fun
  | [d, g1, g2] => { results := [.lit (.bool false)], args := [d], vars := [g1, g2] }
  | _ => none }
def FnExactPackScanWrongFalsely : Prop := fnExactPackScanRow.holds Tryd.pinned (OpenSpec.ofChange fnExactPackScanWrong)

/-- 'laws.FnScan': WHATEVER THE INPUT: true; the input reads as it did. -/
def fnScanSpec : ChangeSpec := { name := "fnScan", vars := ["loop.example/g00259/impl.firstState", "loop.example/g00259/impl.roots"], fn := fun _ => fun
  | [d1, d2, g1, g2] => { results := [.lit (.bool true)], args := [d1, d2], vars := [g1, g2] }
  | _ => none }
def fnScanRow : OpenClaim := { program := "ytddapeieolfolaadoor", sum := "8c7ac9a61e0e6d5e4bf775106b7fe4c9a047c1a410bc55d3be1e41d77d8bc99f", func := "loop.example/g00259/laws.FnScan", spec := "fnScan", inPlace := ["internal/abi.NoEscape", "internal/bytealg.MakeNoZero"], named := ["loop.example/g00259/impl.firstState", "loop.example/g00259/impl.roots"], apart := false, laid := [("loop.example/g00259/impl.firstState", laid_loop_example_g00259_impl_firstState), ("loop.example/g00259/impl.roots", laid_loop_example_g00259_impl_roots)] }
def FnScanSaid : Prop := fnScanRow.holds Tryd.pinned (OpenSpec.ofChange fnScanSpec)

/-- ITS FALSE NEIGHBOUR: 'it returns false'. Refute it at one input. -/
def fnScanWrong : ChangeSpec := { name := "fnScan", vars := ["loop.example/g00259/impl.firstState", "loop.example/g00259/impl.roots"], fn := fun _ => fun
  | [d1, d2, g1, g2] => { results := [.lit (.bool false)], args := [d1, d2], vars := [g1, g2] }
  | _ => none }
def FnScanWrongFalsely : Prop := fnScanRow.holds Tryd.pinned (OpenSpec.ofChange fnScanWrong)

/-- 'laws.FnFrame': WHATEVER THE INPUT: true; the input reads as it did. -/
def fnFrameSpec : ChangeSpec := { name := "fnFrame", vars := ["loop.example/g00259/impl.firstState", "loop.example/g00259/impl.roots"], fn := fun _ => fun
  | [d1, d2, g1, g2] => { results := [.lit (.bool true)], args := [d1, d2], vars := [g1, g2] }
  | _ => none }
def fnFrameRow : OpenClaim := { program := "ytddapeieolfolaadoor", sum := "8c7ac9a61e0e6d5e4bf775106b7fe4c9a047c1a410bc55d3be1e41d77d8bc99f", func := "loop.example/g00259/laws.FnFrame", spec := "fnFrame", inPlace := ["internal/abi.NoEscape", "internal/bytealg.MakeNoZero"], named := ["loop.example/g00259/impl.firstState", "loop.example/g00259/impl.roots"], apart := false, laid := [("loop.example/g00259/impl.firstState", laid_loop_example_g00259_impl_firstState), ("loop.example/g00259/impl.roots", laid_loop_example_g00259_impl_roots)] }
def FnFrameSaid : Prop := fnFrameRow.holds Tryd.pinned (OpenSpec.ofChange fnFrameSpec)

/-- ITS FALSE NEIGHBOUR: 'it returns false'. Refute it at one input. -/
def fnFrameWrong : ChangeSpec := { name := "fnFrame", vars := ["loop.example/g00259/impl.firstState", "loop.example/g00259/impl.roots"], fn := fun _ => fun
  | [d1, d2, g1, g2] => { results := [.lit (.bool false)], args := [d1, d2], vars := [g1, g2] }
  | _ => none }
def FnFrameWrongFalsely : Prop := fnFrameRow.holds Tryd.pinned (OpenSpec.ofChange fnFrameWrong)

/- THE SECOND FORM. 'bulk': how many values and letters a reading holds, each counted each time it is reached (what is shared counts as often as it is met; a slice's spare places count too). A statement '..UptoSaid' is the law's where the arguments, and the package variables that the reading takes, are together of bulk at most 1048576: NARROWER than '..Said'. Prove '..Said' where nothing that the law and all that it calls make is longer than what came in: it says more and counts as full. Else prove '..UptoSaid'. A law counts once. -/
mutual
def uptoBulk {H : Type} : DataW H → Nat
  | .lit (.string bytes) => bytes.length + 1
  | .lit _ => 1
  | .nil => 1
  | .ptr d => uptoBulk d + 1
  | .slice elems spare => uptoBulkAll elems + uptoBulkAll spare + 1
  | .agg parts => uptoBulkAll parts + 1
  | .iface _ d => uptoBulk d + 1
  | .map entries => uptoBulkEntries entries + 1
  | .held _ => 1
def uptoBulkAll {H : Type} : List (DataW H) → Nat
  | [] => 0
  | d :: r => uptoBulk d + uptoBulkAll r
def uptoBulkEntries {H : Type} : List (Lit × DataW H) → Nat
  | [] => 0
  | x :: r => uptoBulkEntry x + uptoBulkEntries r
def uptoBulkEntry {H : Type} : Lit × DataW H → Nat
  | (.string bytes, d) => bytes.length + uptoBulk d + 1
  | (_, d) => uptoBulk d + 1
 end
def uptoSmall : (H : Type) → List (DataW H) → Bool := fun _ ds => decide (uptoBulkAll ds ≤ 1048576)
def OpenSpec.upto (s : _root_.Go.ChangeSpec) : _root_.Go.OpenSpec := { _root_.Go.OpenSpec.ofChange s with cond := some uptoSmall }

/-- 'laws.FnExactPackName', WHERE WHAT IT READS IS OF BULK AT MOST 1048576: true; the input reads as it did. -/
def fnExactPackNameUptoRow : OpenClaim := { program := "ytddapeieolfolaadoor", sum := "8c7ac9a61e0e6d5e4bf775106b7fe4c9a047c1a410bc55d3be1e41d77d8bc99f", func := "loop.example/g00259/laws.FnExactPackName", spec := "fnExactPackName", inPlace := ["internal/abi.NoEscape", "internal/bytealg.MakeNoZero"], named := ["loop.example/g00259/impl.firstState", "loop.example/g00259/impl.roots"], apart := false, laid := [("loop.example/g00259/impl.firstState", laid_loop_example_g00259_impl_firstState), ("loop.example/g00259/impl.roots", laid_loop_example_g00259_impl_roots)], narrowed := true }
def FnExactPackNameUptoSaid : Prop := fnExactPackNameUptoRow.holds Tryd.pinned (OpenSpec.upto fnExactPackNameSpec)

/-- 'laws.FnExactFrameBytes', WHERE WHAT IT READS IS OF BULK AT MOST 1048576: true; the input reads as it did. -/
def fnExactFrameBytesUptoRow : OpenClaim := { program := "ytddapeieolfolaadoor", sum := "8c7ac9a61e0e6d5e4bf775106b7fe4c9a047c1a410bc55d3be1e41d77d8bc99f", func := "loop.example/g00259/laws.FnExactFrameBytes", spec := "fnExactFrameBytes", inPlace := ["internal/abi.NoEscape", "internal/bytealg.MakeNoZero"], named := ["loop.example/g00259/impl.firstState", "loop.example/g00259/impl.roots"], apart := false, laid := [("loop.example/g00259/impl.firstState", laid_loop_example_g00259_impl_firstState), ("loop.example/g00259/impl.roots", laid_loop_example_g00259_impl_roots)], narrowed := true }
def FnExactFrameBytesUptoSaid : Prop := fnExactFrameBytesUptoRow.holds Tryd.pinned (OpenSpec.upto fnExactFrameBytesSpec)

/-- 'laws.FnExactFilesRight', WHERE WHAT IT READS IS OF BULK AT MOST 1048576: true; the input reads as it did. -/
def fnExactFilesRightUptoRow : OpenClaim := { program := "ytddapeieolfolaadoor", sum := "8c7ac9a61e0e6d5e4bf775106b7fe4c9a047c1a410bc55d3be1e41d77d8bc99f", func := "loop.example/g00259/laws.FnExactFilesRight", spec := "fnExactFilesRight", inPlace := ["internal/bytealg.CountString", "internal/bytealg.IndexByteString", "internal/bytealg.IndexString"], unfollowed := true, recurses := true, named := ["unicode/utf8.first", "unicode/utf8.acceptRanges", "internal/bytealg.MaxLen"], apart := false, laid := [("unicode/utf8.acceptRanges", laid_unicode_utf8_acceptRanges), ("unicode/utf8.first", laid_unicode_utf8_first)], narrowed := true }
def FnExactFilesRightUptoSaid : Prop := fnExactFilesRightUptoRow.holds Tryd.pinned (OpenSpec.upto fnExactFilesRightSpec)

/-- 'laws.FnHash', WHERE WHAT IT READS IS OF BULK AT MOST 1048576: true; the input reads as it did. -/
def fnHashUptoRow : OpenClaim := { program := "ytddapeieolfolaadoor", sum := "8c7ac9a61e0e6d5e4bf775106b7fe4c9a047c1a410bc55d3be1e41d77d8bc99f", func := "loop.example/g00259/laws.FnHash", spec := "fnHash", inPlace := ["internal/abi.NoEscape", "internal/bytealg.MakeNoZero"], unfollowed := true, recurses := true, named := ["loop.example/g00259/impl.firstState", "loop.example/g00259/impl.roots"], apart := false, laid := [("loop.example/g00259/impl.firstState", laid_loop_example_g00259_impl_firstState), ("loop.example/g00259/impl.roots", laid_loop_example_g00259_impl_roots)], narrowed := true }
def FnHashUptoSaid : Prop := fnHashUptoRow.holds Tryd.pinned (OpenSpec.upto fnHashSpec)

/-- 'laws.FnExactFrameRead', WHERE WHAT IT READS IS OF BULK AT MOST 1048576: true; the input reads as it did. -/
def fnExactFrameReadUptoRow : OpenClaim := { program := "ytddapeieolfolaadoor", sum := "8c7ac9a61e0e6d5e4bf775106b7fe4c9a047c1a410bc55d3be1e41d77d8bc99f", func := "loop.example/g00259/laws.FnExactFrameRead", spec := "fnExactFrameRead", inPlace := ["internal/abi.NoEscape", "internal/bytealg.MakeNoZero"], named := ["loop.example/g00259/impl.firstState", "loop.example/g00259/impl.roots"], apart := false, laid := [("loop.example/g00259/impl.firstState", laid_loop_example_g00259_impl_firstState), ("loop.example/g00259/impl.roots", laid_loop_example_g00259_impl_roots)], narrowed := true }
def FnExactFrameReadUptoSaid : Prop := fnExactFrameReadUptoRow.holds Tryd.pinned (OpenSpec.upto fnExactFrameReadSpec)

/-- 'laws.FnExactPackScan', WHERE WHAT IT READS IS OF BULK AT MOST 1048576: true; the input reads as it did. -/
def fnExactPackScanUptoRow : OpenClaim := { program := "ytddapeieolfolaadoor", sum := "8c7ac9a61e0e6d5e4bf775106b7fe4c9a047c1a410bc55d3be1e41d77d8bc99f", func := "loop.example/g00259/laws.FnExactPackScan", spec := "fnExactPackScan", inPlace := ["internal/abi.NoEscape", "internal/bytealg.MakeNoZero"], named := ["loop.example/g00259/impl.firstState", "loop.example/g00259/impl.roots"], apart := false, laid := [("loop.example/g00259/impl.firstState", laid_loop_example_g00259_impl_firstState), ("loop.example/g00259/impl.roots", laid_loop_example_g00259_impl_roots)], narrowed := true }
def FnExactPackScanUptoSaid : Prop := fnExactPackScanUptoRow.holds Tryd.pinned (OpenSpec.upto fnExactPackScanSpec)

/-- 'laws.FnScan', WHERE WHAT IT READS IS OF BULK AT MOST 1048576: true; the input reads as it did. -/
def fnScanUptoRow : OpenClaim := { program := "ytddapeieolfolaadoor", sum := "8c7ac9a61e0e6d5e4bf775106b7fe4c9a047c1a410bc55d3be1e41d77d8bc99f", func := "loop.example/g00259/laws.FnScan", spec := "fnScan", inPlace := ["internal/abi.NoEscape", "internal/bytealg.MakeNoZero"], named := ["loop.example/g00259/impl.firstState", "loop.example/g00259/impl.roots"], apart := false, laid := [("loop.example/g00259/impl.firstState", laid_loop_example_g00259_impl_firstState), ("loop.example/g00259/impl.roots", laid_loop_example_g00259_impl_roots)], narrowed := true }
def FnScanUptoSaid : Prop := fnScanUptoRow.holds Tryd.pinned (OpenSpec.upto fnScanSpec)

/-- 'laws.FnFrame', WHERE WHAT IT READS IS OF BULK AT MOST 1048576: true; the input reads as it did. -/
def fnFrameUptoRow : OpenClaim := { program := "ytddapeieolfolaadoor", sum := "8c7ac9a61e0e6d5e4bf775106b7fe4c9a047c1a410bc55d3be1e41d77d8bc99f", func := "loop.example/g00259/laws.FnFrame", spec := "fnFrame", inPlace := ["internal/abi.NoEscape", "internal/bytealg.MakeNoZero"], named := ["loop.example/g00259/impl.firstState", "loop.example/g00259/impl.roots"], apart := false, laid := [("loop.example/g00259/impl.firstState", laid_loop_example_g00259_impl_firstState), ("loop.example/g00259/impl.roots", laid_loop_example_g00259_impl_roots)], narrowed := true }
def FnFrameUptoSaid : Prop := fnFrameUptoRow.holds Tryd.pinned (OpenSpec.upto fnFrameSpec)

end Rows
end Go.Proofs.YtddapeieolfolaaDoor
