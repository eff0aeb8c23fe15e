/-
  DERIVED. GIVEN WITH THE SEED: THE CARDS: each row of YtmmjgmcfdnkomaaGreatDoorRows.lean that lists a variable, with what it lists TIED to the program's text (the seventh form; the later family's looks); each row that meets fmt, with fmt's text TOLD by the authors' own Lean function (tested against real Go, not proved from fmt's source: count such statements apart). THE CARD IS WHAT COUNTS. Prove the row's statement (the work); the ties are given (YtmmjgmcfdnkomaaGreatDoorTie.lean); close each card by the builder's one call (the guide's Derived/Test/ToyasCard.lean, 'card_holds'). Laid BY PROGRAM, IN A SANDBOX (cutbox-door.mjs). By AI agents, Wed Nov 11 2026. No macro, syntax, notation, axiom, sorry.
-/
import Derived.Test.YtmmjgmcfdnkomaaGreatDoorRows
import GoSem.ClaimSeven
namespace Go.Proofs.YtmmjgmcfdnkomaaGreatDoor
namespace Rows

/-- THE TIED CARD OF 'demoticlaw14.ModuleOrders'. -/
def moduleOrdersCard : Claim7 := { stood := { row := moduleOrdersRow, standIns := [], harness := (true, "fb276c29660a2b267f5725617c97d5fd5996eb4d326b1f4a7d3f4fe8192ee77b"), looks := true }, kinds := [], alts := [], laidByText := true, laidKinds := [.data, .data, .data, .data, .sentinel, .sentinel, .pinned], laidTests := true, laidLooks := .later }
def ModuleOrdersCardSaid : Prop := Claim7.holds Tryz.pinned (.plain (OpenSpec.ofChange moduleOrdersSpec)) moduleOrdersCard

/-- THE TIED CARD OF 'demoticlaw14.ModuleMany'. -/
def moduleManyCard : Claim7 := { stood := { row := moduleManyRow, standIns := [], harness := (true, "fb276c29660a2b267f5725617c97d5fd5996eb4d326b1f4a7d3f4fe8192ee77b"), looks := true }, kinds := [], alts := [], laidByText := true, laidKinds := [.data, .data, .data, .data, .sentinel, .sentinel, .pinned], laidTests := true, laidLooks := .later }
def ModuleManyCardSaid : Prop := Claim7.holds Tryz.pinned (.plain (OpenSpec.ofChange moduleManySpec)) moduleManyCard

/-- THE TIED CARD OF 'demoticlaw14.ModuleTwins'. -/
def moduleTwinsCard : Claim7 := { stood := { row := moduleTwinsRow, standIns := [], harness := (true, "fb276c29660a2b267f5725617c97d5fd5996eb4d326b1f4a7d3f4fe8192ee77b"), looks := true }, kinds := [], alts := [], laidByText := true, laidKinds := [.data, .data, .data, .data, .sentinel, .sentinel, .pinned], laidTests := true, laidLooks := .later }
def ModuleTwinsCardSaid : Prop := Claim7.holds Tryz.pinned (.plain (OpenSpec.ofChange moduleTwinsSpec)) moduleTwinsCard

/-- THE TIED CARD OF 'demoticlaw14.ModulePlaces'. -/
def modulePlacesCard : Claim7 := { stood := { row := modulePlacesRow, standIns := [], harness := (true, "fb276c29660a2b267f5725617c97d5fd5996eb4d326b1f4a7d3f4fe8192ee77b"), looks := true }, kinds := [], alts := [], laidByText := true, laidKinds := [.data, .data, .data, .data, .sentinel, .sentinel, .pinned], laidTests := true, laidLooks := .later }
def ModulePlacesCardSaid : Prop := Claim7.holds Tryz.pinned (.plain (OpenSpec.ofChange modulePlacesSpec)) modulePlacesCard

/-- THE SECOND FORM's CARD OF 'demoticlaw14.ModuleOrders'. -/
def moduleOrdersUptoCard : Claim7 := { stood := { row := moduleOrdersUptoRow, standIns := [], harness := (true, "fb276c29660a2b267f5725617c97d5fd5996eb4d326b1f4a7d3f4fe8192ee77b"), looks := true }, kinds := [], alts := [], laidByText := true, laidKinds := [.data, .data, .data, .data, .sentinel, .sentinel, .pinned], laidTests := true, laidLooks := .later }
def ModuleOrdersUptoCardSaid : Prop := Claim7.holds Tryz.pinned (.plain (OpenSpec.upto moduleOrdersSpec)) moduleOrdersUptoCard

/-- THE SECOND FORM's CARD OF 'demoticlaw14.ModuleMany'. -/
def moduleManyUptoCard : Claim7 := { stood := { row := moduleManyUptoRow, standIns := [], harness := (true, "fb276c29660a2b267f5725617c97d5fd5996eb4d326b1f4a7d3f4fe8192ee77b"), looks := true }, kinds := [], alts := [], laidByText := true, laidKinds := [.data, .data, .data, .data, .sentinel, .sentinel, .pinned], laidTests := true, laidLooks := .later }
def ModuleManyUptoCardSaid : Prop := Claim7.holds Tryz.pinned (.plain (OpenSpec.upto moduleManySpec)) moduleManyUptoCard

/-- THE SECOND FORM's CARD OF 'demoticlaw14.ModuleTwins'. -/
def moduleTwinsUptoCard : Claim7 := { stood := { row := moduleTwinsUptoRow, standIns := [], harness := (true, "fb276c29660a2b267f5725617c97d5fd5996eb4d326b1f4a7d3f4fe8192ee77b"), looks := true }, kinds := [], alts := [], laidByText := true, laidKinds := [.data, .data, .data, .data, .sentinel, .sentinel, .pinned], laidTests := true, laidLooks := .later }
def ModuleTwinsUptoCardSaid : Prop := Claim7.holds Tryz.pinned (.plain (OpenSpec.upto moduleTwinsSpec)) moduleTwinsUptoCard

/-- THE SECOND FORM's CARD OF 'demoticlaw14.ModulePlaces'. -/
def modulePlacesUptoCard : Claim7 := { stood := { row := modulePlacesUptoRow, standIns := [], harness := (true, "fb276c29660a2b267f5725617c97d5fd5996eb4d326b1f4a7d3f4fe8192ee77b"), looks := true }, kinds := [], alts := [], laidByText := true, laidKinds := [.data, .data, .data, .data, .sentinel, .sentinel, .pinned], laidTests := true, laidLooks := .later }
def ModulePlacesUptoCardSaid : Prop := Claim7.holds Tryz.pinned (.plain (OpenSpec.upto modulePlacesSpec)) modulePlacesUptoCard
end Rows
end Go.Proofs.YtmmjgmcfdnkomaaGreatDoor
