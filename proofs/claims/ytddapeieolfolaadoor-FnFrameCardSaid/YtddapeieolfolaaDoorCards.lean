/-
  DERIVED. GIVEN WITH THE SEED: THE CARDS: each row of YtddapeieolfolaaDoorRows.lean that lists a variable, with what it lists TIED to the program's text (the seventh form; the later family's looks); each row that meets fmt, with fmt's text TOLD by the authors' own Lean function (tested against real Go, not proved from fmt's source: count such statements apart). THE CARD IS WHAT COUNTS. Prove the row's statement (the work); the ties are given (YtddapeieolfolaaDoorTie.lean); close each card by the builder's one call (the guide's Derived/Test/ToyasCard.lean, 'card_holds'). Laid BY PROGRAM, IN A SANDBOX (cutbox-door.mjs). By AI agents, Wed Nov 11 2026. No macro, syntax, notation, axiom, sorry.
-/
import Derived.Test.YtddapeieolfolaaDoorRows
import GoSem.ClaimSeven
namespace Go.Proofs.YtddapeieolfolaaDoor
namespace Rows

/-- THE TIED CARD OF 'laws.FnExactPackName'. -/
def fnExactPackNameCard : Claim7 := { stood := { row := fnExactPackNameRow, standIns := [], harness := (true, "4da610ab44ef8a4ec9ef2151130d270f5fd2563e2701357bf3adbdc4eea9ae75"), looks := false }, kinds := [], alts := [], laidByText := true, laidKinds := [.data, .data], laidTests := true, laidLooks := .later }
def FnExactPackNameCardSaid : Prop := Claim7.holds Tryd.pinned (.plain (OpenSpec.ofChange fnExactPackNameSpec)) fnExactPackNameCard

/-- THE TIED CARD OF 'laws.FnExactFrameBytes'. -/
def fnExactFrameBytesCard : Claim7 := { stood := { row := fnExactFrameBytesRow, standIns := [], harness := (true, "4da610ab44ef8a4ec9ef2151130d270f5fd2563e2701357bf3adbdc4eea9ae75"), looks := false }, kinds := [], alts := [], laidByText := true, laidKinds := [.data, .data], laidTests := true, laidLooks := .later }
def FnExactFrameBytesCardSaid : Prop := Claim7.holds Tryd.pinned (.plain (OpenSpec.ofChange fnExactFrameBytesSpec)) fnExactFrameBytesCard

/-- THE TIED CARD OF 'laws.FnExactFilesRight'. -/
def fnExactFilesRightCard : Claim7 := { stood := { row := fnExactFilesRightRow, standIns := [], harness := (true, "4da610ab44ef8a4ec9ef2151130d270f5fd2563e2701357bf3adbdc4eea9ae75"), looks := false }, kinds := [], alts := [], laidByText := true, laidKinds := [.data, .pinned], laidTests := true, laidLooks := .later }
def FnExactFilesRightCardSaid : Prop := Claim7.holds Tryd.pinned (.plain (OpenSpec.ofChange fnExactFilesRightSpec)) fnExactFilesRightCard

/-- THE TIED CARD OF 'laws.FnHash'. -/
def fnHashCard : Claim7 := { stood := { row := fnHashRow, standIns := [], harness := (true, "4da610ab44ef8a4ec9ef2151130d270f5fd2563e2701357bf3adbdc4eea9ae75"), looks := false }, kinds := [], alts := [], laidByText := true, laidKinds := [.data, .data], laidTests := true, laidLooks := .later }
def FnHashCardSaid : Prop := Claim7.holds Tryd.pinned (.plain (OpenSpec.ofChange fnHashSpec)) fnHashCard

/-- THE TIED CARD OF 'laws.FnExactFrameRead'. -/
def fnExactFrameReadCard : Claim7 := { stood := { row := fnExactFrameReadRow, standIns := [], harness := (true, "4da610ab44ef8a4ec9ef2151130d270f5fd2563e2701357bf3adbdc4eea9ae75"), looks := false }, kinds := [], alts := [], laidByText := true, laidKinds := [.data, .data], laidTests := true, laidLooks := .later }
def FnExactFrameReadCardSaid : Prop := Claim7.holds Tryd.pinned (.plain (OpenSpec.ofChange fnExactFrameReadSpec)) fnExactFrameReadCard

/-- THE TIED CARD OF 'laws.FnExactPackScan'. -/
def fnExactPackScanCard : Claim7 := { stood := { row := fnExactPackScanRow, standIns := [], harness := (true, "4da610ab44ef8a4ec9ef2151130d270f5fd2563e2701357bf3adbdc4eea9ae75"), looks := false }, kinds := [], alts := [], laidByText := true, laidKinds := [.data, .data], laidTests := true, laidLooks := .later }
def FnExactPackScanCardSaid : Prop := Claim7.holds Tryd.pinned (.plain (OpenSpec.ofChange fnExactPackScanSpec)) fnExactPackScanCard

/-- THE TIED CARD OF 'laws.FnScan'. -/
def fnScanCard : Claim7 := { stood := { row := fnScanRow, standIns := [], harness := (true, "4da610ab44ef8a4ec9ef2151130d270f5fd2563e2701357bf3adbdc4eea9ae75"), looks := false }, kinds := [], alts := [], laidByText := true, laidKinds := [.data, .data], laidTests := true, laidLooks := .later }
def FnScanCardSaid : Prop := Claim7.holds Tryd.pinned (.plain (OpenSpec.ofChange fnScanSpec)) fnScanCard

/-- THE TIED CARD OF 'laws.FnFrame'. -/
def fnFrameCard : Claim7 := { stood := { row := fnFrameRow, standIns := [], harness := (true, "4da610ab44ef8a4ec9ef2151130d270f5fd2563e2701357bf3adbdc4eea9ae75"), looks := false }, kinds := [], alts := [], laidByText := true, laidKinds := [.data, .data], laidTests := true, laidLooks := .later }
def FnFrameCardSaid : Prop := Claim7.holds Tryd.pinned (.plain (OpenSpec.ofChange fnFrameSpec)) fnFrameCard

/-- THE SECOND FORM's CARD OF 'laws.FnExactPackName'. -/
def fnExactPackNameUptoCard : Claim7 := { stood := { row := fnExactPackNameUptoRow, standIns := [], harness := (true, "4da610ab44ef8a4ec9ef2151130d270f5fd2563e2701357bf3adbdc4eea9ae75"), looks := false }, kinds := [], alts := [], laidByText := true, laidKinds := [.data, .data], laidTests := true, laidLooks := .later }
def FnExactPackNameUptoCardSaid : Prop := Claim7.holds Tryd.pinned (.plain (OpenSpec.upto fnExactPackNameSpec)) fnExactPackNameUptoCard

/-- THE SECOND FORM's CARD OF 'laws.FnExactFrameBytes'. -/
def fnExactFrameBytesUptoCard : Claim7 := { stood := { row := fnExactFrameBytesUptoRow, standIns := [], harness := (true, "4da610ab44ef8a4ec9ef2151130d270f5fd2563e2701357bf3adbdc4eea9ae75"), looks := false }, kinds := [], alts := [], laidByText := true, laidKinds := [.data, .data], laidTests := true, laidLooks := .later }
def FnExactFrameBytesUptoCardSaid : Prop := Claim7.holds Tryd.pinned (.plain (OpenSpec.upto fnExactFrameBytesSpec)) fnExactFrameBytesUptoCard

/-- THE SECOND FORM's CARD OF 'laws.FnExactFilesRight'. -/
def fnExactFilesRightUptoCard : Claim7 := { stood := { row := fnExactFilesRightUptoRow, standIns := [], harness := (true, "4da610ab44ef8a4ec9ef2151130d270f5fd2563e2701357bf3adbdc4eea9ae75"), looks := false }, kinds := [], alts := [], laidByText := true, laidKinds := [.data, .pinned], laidTests := true, laidLooks := .later }
def FnExactFilesRightUptoCardSaid : Prop := Claim7.holds Tryd.pinned (.plain (OpenSpec.upto fnExactFilesRightSpec)) fnExactFilesRightUptoCard

/-- THE SECOND FORM's CARD OF 'laws.FnHash'. -/
def fnHashUptoCard : Claim7 := { stood := { row := fnHashUptoRow, standIns := [], harness := (true, "4da610ab44ef8a4ec9ef2151130d270f5fd2563e2701357bf3adbdc4eea9ae75"), looks := false }, kinds := [], alts := [], laidByText := true, laidKinds := [.data, .data], laidTests := true, laidLooks := .later }
def FnHashUptoCardSaid : Prop := Claim7.holds Tryd.pinned (.plain (OpenSpec.upto fnHashSpec)) fnHashUptoCard

/-- THE SECOND FORM's CARD OF 'laws.FnExactFrameRead'. -/
def fnExactFrameReadUptoCard : Claim7 := { stood := { row := fnExactFrameReadUptoRow, standIns := [], harness := (true, "4da610ab44ef8a4ec9ef2151130d270f5fd2563e2701357bf3adbdc4eea9ae75"), looks := false }, kinds := [], alts := [], laidByText := true, laidKinds := [.data, .data], laidTests := true, laidLooks := .later }
def FnExactFrameReadUptoCardSaid : Prop := Claim7.holds Tryd.pinned (.plain (OpenSpec.upto fnExactFrameReadSpec)) fnExactFrameReadUptoCard

/-- THE SECOND FORM's CARD OF 'laws.FnExactPackScan'. -/
def fnExactPackScanUptoCard : Claim7 := { stood := { row := fnExactPackScanUptoRow, standIns := [], harness := (true, "4da610ab44ef8a4ec9ef2151130d270f5fd2563e2701357bf3adbdc4eea9ae75"), looks := false }, kinds := [], alts := [], laidByText := true, laidKinds := [.data, .data], laidTests := true, laidLooks := .later }
def FnExactPackScanUptoCardSaid : Prop := Claim7.holds Tryd.pinned (.plain (OpenSpec.upto fnExactPackScanSpec)) fnExactPackScanUptoCard

/-- THE SECOND FORM's CARD OF 'laws.FnScan'. -/
def fnScanUptoCard : Claim7 := { stood := { row := fnScanUptoRow, standIns := [], harness := (true, "4da610ab44ef8a4ec9ef2151130d270f5fd2563e2701357bf3adbdc4eea9ae75"), looks := false }, kinds := [], alts := [], laidByText := true, laidKinds := [.data, .data], laidTests := true, laidLooks := .later }
def FnScanUptoCardSaid : Prop := Claim7.holds Tryd.pinned (.plain (OpenSpec.upto fnScanSpec)) fnScanUptoCard

/-- THE SECOND FORM's CARD OF 'laws.FnFrame'. -/
def fnFrameUptoCard : Claim7 := { stood := { row := fnFrameUptoRow, standIns := [], harness := (true, "4da610ab44ef8a4ec9ef2151130d270f5fd2563e2701357bf3adbdc4eea9ae75"), looks := false }, kinds := [], alts := [], laidByText := true, laidKinds := [.data, .data], laidTests := true, laidLooks := .later }
def FnFrameUptoCardSaid : Prop := Claim7.holds Tryd.pinned (.plain (OpenSpec.upto fnFrameSpec)) fnFrameUptoCard
end Rows
end Go.Proofs.YtddapeieolfolaaDoor
