/-
  DERIVED. GIVEN WITH THE SEED: THE CARDS: each row of YteialcjaiocjdaaGreatDoorRows.lean that lists a variable, with what it lists TIED to the program's text (the seventh form; the later family's looks); each row that meets fmt, with fmt's text TOLD by the authors' own Lean function (tested against real Go, not proved from fmt's source: count such statements apart). THE CARD IS WHAT COUNTS. Prove the row's statement (the work); the ties are given (YteialcjaiocjdaaGreatDoorTie.lean); close each card by the builder's one call (the guide's Derived/Test/ToyasCard.lean, 'card_holds'). Laid BY PROGRAM, IN A SANDBOX (cutbox-door.mjs). By AI agents, Wed Nov 11 2026. No macro, syntax, notation, axiom, sorry.
-/
import Derived.Test.YteialcjaiocjdaaGreatDoorRows
import GoSem.ClaimSeven
namespace Go.Proofs.YteialcjaiocjdaaGreatDoor
namespace Rows

/-- THE TIED CARD OF 'demoticlaw08.ReadShows'. -/
def readShowsCard : Claim7 := { stood := { row := readShowsRow, standIns := [], harness := (true, "7f0a61722f32f17c5c295aa8f0d7056c79460146d823bc97e95860ff1bd08821"), looks := true }, kinds := [], alts := [], laidByText := true, laidKinds := [.data, .pinned], laidTests := true, laidLooks := .later }
def ReadShowsCardSaid : Prop := Claim7.holds Tryz.pinned (.plain (OpenSpec.ofChange readShowsSpec)) readShowsCard

/-- THE SECOND FORM's CARD OF 'demoticlaw08.ReadShows'. -/
def readShowsUptoCard : Claim7 := { stood := { row := readShowsUptoRow, standIns := [], harness := (true, "7f0a61722f32f17c5c295aa8f0d7056c79460146d823bc97e95860ff1bd08821"), looks := true }, kinds := [], alts := [], laidByText := true, laidKinds := [.data, .pinned], laidTests := true, laidLooks := .later }
def ReadShowsUptoCardSaid : Prop := Claim7.holds Tryz.pinned (.plain (OpenSpec.upto readShowsSpec)) readShowsUptoCard
end Rows
end Go.Proofs.YteialcjaiocjdaaGreatDoor
