/-
  DERIVED. GIVEN WITH THE SEED: THE CARDS: each row of YtnalfjaojcahhaaGreatDoorRows.lean that lists a variable, with what it lists TIED to the program's text (the seventh form; the later family's looks); each row that meets fmt, with fmt's text TOLD by the authors' own Lean function (tested against real Go, not proved from fmt's source: count such statements apart). THE CARD IS WHAT COUNTS. Prove the row's statement (the work); the ties are given (YtnalfjaojcahhaaGreatDoorTie.lean); close each card by the builder's one call (the guide's Derived/Test/ToyasCard.lean, 'card_holds'). Laid BY PROGRAM, IN A SANDBOX (cutbox-door.mjs). By AI agents, Wed Nov 11 2026. No macro, syntax, notation, axiom, sorry.
-/
import Derived.Test.YtnalfjaojcahhaaGreatDoorRows
import GoSem.ClaimSeven
namespace Go.Proofs.YtnalfjaojcahhaaGreatDoor
namespace Rows

/-- THE TIED CARD OF 'demoticlaw13.GateParts'. -/
def gatePartsCard : Claim7 := { stood := { row := gatePartsRow, standIns := [], harness := (true, "7a15dcb4a2eeb6c0f6737cb70da0569906f9354b855530873d3fe36f9aa0e1a5"), looks := true }, kinds := [], alts := [], laidByText := true, laidKinds := [.data, .pinned], laidTests := true, laidLooks := .later }
def GatePartsCardSaid : Prop := Claim7.holds Tryz.pinned (.plain (OpenSpec.ofChange gatePartsSpec)) gatePartsCard

/-- THE TIED CARD OF 'demoticlaw13.GateOld'. -/
def gateOldCard : Claim7 := { stood := { row := gateOldRow, standIns := [], harness := (true, "7a15dcb4a2eeb6c0f6737cb70da0569906f9354b855530873d3fe36f9aa0e1a5"), looks := true }, kinds := [], alts := [], laidByText := true, laidKinds := [.data, .pinned], laidTests := true, laidLooks := .later }
def GateOldCardSaid : Prop := Claim7.holds Tryz.pinned (.plain (OpenSpec.ofChange gateOldSpec)) gateOldCard

/-- THE TIED CARD OF 'demoticlaw13.GateUses'. -/
def gateUsesCard : Claim7 := { stood := { row := gateUsesRow, standIns := [], harness := (true, "7a15dcb4a2eeb6c0f6737cb70da0569906f9354b855530873d3fe36f9aa0e1a5"), looks := true }, kinds := [], alts := [], laidByText := true, laidKinds := [.data, .pinned], laidTests := true, laidLooks := .later }
def GateUsesCardSaid : Prop := Claim7.holds Tryz.pinned (.plain (OpenSpec.ofChange gateUsesSpec)) gateUsesCard

/-- THE TIED CARD OF 'demoticlaw13.GateBounds'. -/
def gateBoundsCard : Claim7 := { stood := { row := gateBoundsRow, standIns := [], harness := (true, "7a15dcb4a2eeb6c0f6737cb70da0569906f9354b855530873d3fe36f9aa0e1a5"), looks := true }, kinds := [], alts := [], laidByText := true, laidKinds := [.data, .pinned], laidTests := true, laidLooks := .later }
def GateBoundsCardSaid : Prop := Claim7.holds Tryz.pinned (.plain (OpenSpec.ofChange gateBoundsSpec)) gateBoundsCard

/-- THE TIED CARD OF 'demoticlaw13.GateMore'. -/
def gateMoreCard : Claim7 := { stood := { row := gateMoreRow, standIns := [], harness := (true, "7a15dcb4a2eeb6c0f6737cb70da0569906f9354b855530873d3fe36f9aa0e1a5"), looks := true }, kinds := [], alts := [], laidByText := true, laidKinds := [.data, .pinned], laidTests := true, laidLooks := .later }
def GateMoreCardSaid : Prop := Claim7.holds Tryz.pinned (.plain (OpenSpec.ofChange gateMoreSpec)) gateMoreCard

/-- THE SECOND FORM's CARD OF 'demoticlaw13.GateParts'. -/
def gatePartsUptoCard : Claim7 := { stood := { row := gatePartsUptoRow, standIns := [], harness := (true, "7a15dcb4a2eeb6c0f6737cb70da0569906f9354b855530873d3fe36f9aa0e1a5"), looks := true }, kinds := [], alts := [], laidByText := true, laidKinds := [.data, .pinned], laidTests := true, laidLooks := .later }
def GatePartsUptoCardSaid : Prop := Claim7.holds Tryz.pinned (.plain (OpenSpec.upto gatePartsSpec)) gatePartsUptoCard

/-- THE SECOND FORM's CARD OF 'demoticlaw13.GateOld'. -/
def gateOldUptoCard : Claim7 := { stood := { row := gateOldUptoRow, standIns := [], harness := (true, "7a15dcb4a2eeb6c0f6737cb70da0569906f9354b855530873d3fe36f9aa0e1a5"), looks := true }, kinds := [], alts := [], laidByText := true, laidKinds := [.data, .pinned], laidTests := true, laidLooks := .later }
def GateOldUptoCardSaid : Prop := Claim7.holds Tryz.pinned (.plain (OpenSpec.upto gateOldSpec)) gateOldUptoCard

/-- THE SECOND FORM's CARD OF 'demoticlaw13.GateUses'. -/
def gateUsesUptoCard : Claim7 := { stood := { row := gateUsesUptoRow, standIns := [], harness := (true, "7a15dcb4a2eeb6c0f6737cb70da0569906f9354b855530873d3fe36f9aa0e1a5"), looks := true }, kinds := [], alts := [], laidByText := true, laidKinds := [.data, .pinned], laidTests := true, laidLooks := .later }
def GateUsesUptoCardSaid : Prop := Claim7.holds Tryz.pinned (.plain (OpenSpec.upto gateUsesSpec)) gateUsesUptoCard

/-- THE SECOND FORM's CARD OF 'demoticlaw13.GateBounds'. -/
def gateBoundsUptoCard : Claim7 := { stood := { row := gateBoundsUptoRow, standIns := [], harness := (true, "7a15dcb4a2eeb6c0f6737cb70da0569906f9354b855530873d3fe36f9aa0e1a5"), looks := true }, kinds := [], alts := [], laidByText := true, laidKinds := [.data, .pinned], laidTests := true, laidLooks := .later }
def GateBoundsUptoCardSaid : Prop := Claim7.holds Tryz.pinned (.plain (OpenSpec.upto gateBoundsSpec)) gateBoundsUptoCard

/-- THE SECOND FORM's CARD OF 'demoticlaw13.GateMore'. -/
def gateMoreUptoCard : Claim7 := { stood := { row := gateMoreUptoRow, standIns := [], harness := (true, "7a15dcb4a2eeb6c0f6737cb70da0569906f9354b855530873d3fe36f9aa0e1a5"), looks := true }, kinds := [], alts := [], laidByText := true, laidKinds := [.data, .pinned], laidTests := true, laidLooks := .later }
def GateMoreUptoCardSaid : Prop := Claim7.holds Tryz.pinned (.plain (OpenSpec.upto gateMoreSpec)) gateMoreUptoCard
end Rows
end Go.Proofs.YtnalfjaojcahhaaGreatDoor
