/-
  DERIVED. GIVEN WITH THE SEED: THE CARDS: each row of YtfffdndeccipnaaDoorRows.lean that lists a variable, with what it lists TIED to the program's text (the seventh form; the later family's looks); each row that meets fmt, with fmt's text TOLD by the authors' own Lean function (tested against real Go, not proved from fmt's source: count such statements apart). THE CARD IS WHAT COUNTS. Prove the row's statement (the work); the ties are given (YtfffdndeccipnaaDoorTie.lean); close each card by the builder's one call (the guide's Derived/Test/ToyasCard.lean, 'card_holds'). Laid BY PROGRAM, IN A SANDBOX (cutbox-door.mjs). By AI agents, Wed Nov 11 2026. No macro, syntax, notation, axiom, sorry.
-/
import Derived.Test.YtfffdndeccipnaaDoorRows
import GoSem.ClaimSeven
namespace Go.Proofs.YtfffdndeccipnaaDoor
namespace Rows

/-- THE TIED CARD OF 'laws.FnExactPackRead'. -/
def fnExactPackReadCard : Claim7 := { stood := { row := fnExactPackReadRow, standIns := [], harness := (true, "1f114fbe7db358ccb617d014777f54bc1c564668b0ae6ff4e9faa7a4a46f87bc"), looks := false }, kinds := [], alts := [], laidByText := true, laidKinds := [.data, .data], laidTests := true, laidLooks := .later }
def FnExactPackReadCardSaid : Prop := Claim7.holds Tryd.pinned (.plain (OpenSpec.ofChange fnExactPackReadSpec)) fnExactPackReadCard

/-- THE TIED CARD OF 'laws.FnPack'. -/
def fnPackCard : Claim7 := { stood := { row := fnPackRow, standIns := [], harness := (true, "1f114fbe7db358ccb617d014777f54bc1c564668b0ae6ff4e9faa7a4a46f87bc"), looks := false }, kinds := [], alts := [], laidByText := true, laidKinds := [.data, .data], laidTests := true, laidLooks := .later }
def FnPackCardSaid : Prop := Claim7.holds Tryd.pinned (.plain (OpenSpec.ofChange fnPackSpec)) fnPackCard

/-- THE TIED CARD OF 'laws.FnHash'. -/
def fnHashCard : Claim7 := { stood := { row := fnHashRow, standIns := [], harness := (true, "1f114fbe7db358ccb617d014777f54bc1c564668b0ae6ff4e9faa7a4a46f87bc"), looks := false }, kinds := [], alts := [], laidByText := true, laidKinds := [.data, .data], laidTests := true, laidLooks := .later }
def FnHashCardSaid : Prop := Claim7.holds Tryd.pinned (.plain (OpenSpec.ofChange fnHashSpec)) fnHashCard

/-- THE TIED CARD OF 'laws.FnExactFilesRight'. -/
def fnExactFilesRightCard : Claim7 := { stood := { row := fnExactFilesRightRow, standIns := [], harness := (true, "1f114fbe7db358ccb617d014777f54bc1c564668b0ae6ff4e9faa7a4a46f87bc"), looks := false }, kinds := [], alts := [], laidByText := true, laidKinds := [.data, .pinned], laidTests := true, laidLooks := .later }
def FnExactFilesRightCardSaid : Prop := Claim7.holds Tryd.pinned (.plain (OpenSpec.ofChange fnExactFilesRightSpec)) fnExactFilesRightCard

/-- THE TIED CARD OF 'laws.FnExactPlacesOf'. -/
def fnExactPlacesOfCard : Claim7 := { stood := { row := fnExactPlacesOfRow, standIns := [], harness := (true, "1f114fbe7db358ccb617d014777f54bc1c564668b0ae6ff4e9faa7a4a46f87bc"), looks := false }, kinds := [], alts := [], laidByText := true, laidKinds := [.data, .data], laidTests := true, laidLooks := .later }
def FnExactPlacesOfCardSaid : Prop := Claim7.holds Tryd.pinned (.plain (OpenSpec.ofChange fnExactPlacesOfSpec)) fnExactPlacesOfCard

/-- THE SECOND FORM's CARD OF 'laws.FnExactPackRead'. -/
def fnExactPackReadUptoCard : Claim7 := { stood := { row := fnExactPackReadUptoRow, standIns := [], harness := (true, "1f114fbe7db358ccb617d014777f54bc1c564668b0ae6ff4e9faa7a4a46f87bc"), looks := false }, kinds := [], alts := [], laidByText := true, laidKinds := [.data, .data], laidTests := true, laidLooks := .later }
def FnExactPackReadUptoCardSaid : Prop := Claim7.holds Tryd.pinned (.plain (OpenSpec.upto fnExactPackReadSpec)) fnExactPackReadUptoCard

/-- THE SECOND FORM's CARD OF 'laws.FnPack'. -/
def fnPackUptoCard : Claim7 := { stood := { row := fnPackUptoRow, standIns := [], harness := (true, "1f114fbe7db358ccb617d014777f54bc1c564668b0ae6ff4e9faa7a4a46f87bc"), looks := false }, kinds := [], alts := [], laidByText := true, laidKinds := [.data, .data], laidTests := true, laidLooks := .later }
def FnPackUptoCardSaid : Prop := Claim7.holds Tryd.pinned (.plain (OpenSpec.upto fnPackSpec)) fnPackUptoCard

/-- THE SECOND FORM's CARD OF 'laws.FnHash'. -/
def fnHashUptoCard : Claim7 := { stood := { row := fnHashUptoRow, standIns := [], harness := (true, "1f114fbe7db358ccb617d014777f54bc1c564668b0ae6ff4e9faa7a4a46f87bc"), looks := false }, kinds := [], alts := [], laidByText := true, laidKinds := [.data, .data], laidTests := true, laidLooks := .later }
def FnHashUptoCardSaid : Prop := Claim7.holds Tryd.pinned (.plain (OpenSpec.upto fnHashSpec)) fnHashUptoCard

/-- THE SECOND FORM's CARD OF 'laws.FnExactFilesRight'. -/
def fnExactFilesRightUptoCard : Claim7 := { stood := { row := fnExactFilesRightUptoRow, standIns := [], harness := (true, "1f114fbe7db358ccb617d014777f54bc1c564668b0ae6ff4e9faa7a4a46f87bc"), looks := false }, kinds := [], alts := [], laidByText := true, laidKinds := [.data, .pinned], laidTests := true, laidLooks := .later }
def FnExactFilesRightUptoCardSaid : Prop := Claim7.holds Tryd.pinned (.plain (OpenSpec.upto fnExactFilesRightSpec)) fnExactFilesRightUptoCard

/-- THE SECOND FORM's CARD OF 'laws.FnExactPlacesOf'. -/
def fnExactPlacesOfUptoCard : Claim7 := { stood := { row := fnExactPlacesOfUptoRow, standIns := [], harness := (true, "1f114fbe7db358ccb617d014777f54bc1c564668b0ae6ff4e9faa7a4a46f87bc"), looks := false }, kinds := [], alts := [], laidByText := true, laidKinds := [.data, .data], laidTests := true, laidLooks := .later }
def FnExactPlacesOfUptoCardSaid : Prop := Claim7.holds Tryd.pinned (.plain (OpenSpec.upto fnExactPlacesOfSpec)) fnExactPlacesOfUptoCard
end Rows
end Go.Proofs.YtfffdndeccipnaaDoor
