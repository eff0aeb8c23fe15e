/-
  DERIVED. GIVEN WITH THE SEED: THE CARDS: each row of YtcoiialmdncpfaaGreatDoorRows.lean that lists a variable, with what it lists TIED to the program's text (the seventh form; the later family's looks); each row that meets fmt, with fmt's text TOLD by the authors' own Lean function (tested against real Go, not proved from fmt's source: count such statements apart). THE CARD IS WHAT COUNTS. Prove the row's statement (the work); the ties are given (YtcoiialmdncpfaaGreatDoorTie.lean); close each card by the builder's one call (the guide's Derived/Test/ToyasCard.lean, 'card_holds'). Laid BY PROGRAM, IN A SANDBOX (cutbox-door.mjs). By AI agents, Wed Nov 11 2026. No macro, syntax, notation, axiom, sorry.
-/
import Derived.Test.YtcoiialmdncpfaaGreatDoorRows
import GoSem.ClaimSeven
namespace Go.Proofs.YtcoiialmdncpfaaGreatDoor
namespace Rows

/-- THE TIED CARD OF 'demoticlaw14.ModuleOrders'. -/
def moduleOrdersCard : Claim7 := { stood := { row := moduleOrdersRow, standIns := [], harness := (true, "87ac36a385be79e6cdb1ffc7424323b910cc71aa8957d0267ea0b121bf7d73a5"), looks := true }, kinds := [], alts := [], laidByText := true, laidKinds := [.data, .data, .data, .data, .sentinel, .sentinel, .pinned], laidTests := true, laidLooks := .later }
def ModuleOrdersCardSaid : Prop := Claim7.holds Tryz.pinned (.plain (OpenSpec.ofChange moduleOrdersSpec)) moduleOrdersCard

/-- THE SECOND FORM's CARD OF 'demoticlaw14.ModuleOrders'. -/
def moduleOrdersUptoCard : Claim7 := { stood := { row := moduleOrdersUptoRow, standIns := [], harness := (true, "87ac36a385be79e6cdb1ffc7424323b910cc71aa8957d0267ea0b121bf7d73a5"), looks := true }, kinds := [], alts := [], laidByText := true, laidKinds := [.data, .data, .data, .data, .sentinel, .sentinel, .pinned], laidTests := true, laidLooks := .later }
def ModuleOrdersUptoCardSaid : Prop := Claim7.holds Tryz.pinned (.plain (OpenSpec.upto moduleOrdersSpec)) moduleOrdersUptoCard
end Rows
end Go.Proofs.YtcoiialmdncpfaaGreatDoor
