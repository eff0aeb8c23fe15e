/-
  DERIVED. GIVEN WITH THE SEED: THE CARDS: each row of YtiebcdeafofgdaaGreatDoorRows.lean that lists a variable, with what it lists TIED to the program's text (the seventh form; the later family's looks); each row that meets fmt, with fmt's text TOLD by the authors' own Lean function (tested against real Go, not proved from fmt's source: count such statements apart). THE CARD IS WHAT COUNTS. Prove the row's statement (the work); the ties are given (YtiebcdeafofgdaaGreatDoorTie.lean); close each card by the builder's one call (the guide's Derived/Test/ToyasCard.lean, 'card_holds'). Laid BY PROGRAM, IN A SANDBOX (cutbox-door.mjs). By AI agents, Wed Nov 11 2026. No macro, syntax, notation, axiom, sorry.
-/
import Derived.Test.YtiebcdeafofgdaaGreatDoorRows
import GoSem.ClaimSeven
namespace Go.Proofs.YtiebcdeafofgdaaGreatDoor
namespace Rows

/-- THE TIED CARD OF 'demoticlaw08.ReadShows'. -/
def readShowsCard : Claim7 := { stood := { row := readShowsRow, standIns := [], harness := (true, "8200f6ab3ca0bd2882b554d8dd3090b53fa663ecbd1c827ce71ffc11df5c4e53"), looks := true }, kinds := [], alts := [], laidByText := true, laidKinds := [.data, .pinned], laidTests := true, laidLooks := .later }
def ReadShowsCardSaid : Prop := Claim7.holds Tryz.pinned (.plain (OpenSpec.ofChange readShowsSpec)) readShowsCard

/-- THE TIED CARD OF 'demoticlaw08.ReadLoose'. -/
def readLooseCard : Claim7 := { stood := { row := readLooseRow, standIns := [], harness := (true, "8200f6ab3ca0bd2882b554d8dd3090b53fa663ecbd1c827ce71ffc11df5c4e53"), looks := true }, kinds := [], alts := [], laidByText := true, laidKinds := [.data, .pinned], laidTests := true, laidLooks := .later }
def ReadLooseCardSaid : Prop := Claim7.holds Tryz.pinned (.plain (OpenSpec.ofChange readLooseSpec)) readLooseCard

/-- THE TIED CARD OF 'demoticlaw08.ReadPlaces'. -/
def readPlacesCard : Claim7 := { stood := { row := readPlacesRow, standIns := [], harness := (true, "8200f6ab3ca0bd2882b554d8dd3090b53fa663ecbd1c827ce71ffc11df5c4e53"), looks := true }, kinds := [], alts := [], laidByText := true, laidKinds := [.data, .pinned], laidTests := true, laidLooks := .later }
def ReadPlacesCardSaid : Prop := Claim7.holds Tryz.pinned (.plain (OpenSpec.ofChange readPlacesSpec)) readPlacesCard

/-- THE TIED CARD OF 'demoticlaw08.ReadWords'. -/
def readWordsCard : Claim7 := { stood := { row := readWordsRow, standIns := [], harness := (true, "8200f6ab3ca0bd2882b554d8dd3090b53fa663ecbd1c827ce71ffc11df5c4e53"), looks := true }, kinds := [], alts := [], laidByText := true, laidKinds := [.data, .pinned], laidTests := true, laidLooks := .later }
def ReadWordsCardSaid : Prop := Claim7.holds Tryz.pinned (.plain (OpenSpec.ofChange readWordsSpec)) readWordsCard

/-- THE TIED CARD OF 'demoticlaw08.ReadAgain'. -/
def readAgainCard : Claim7 := { stood := { row := readAgainRow, standIns := [], harness := (true, "8200f6ab3ca0bd2882b554d8dd3090b53fa663ecbd1c827ce71ffc11df5c4e53"), looks := true }, kinds := [], alts := [], laidByText := true, laidKinds := [.data, .pinned], laidTests := true, laidLooks := .later }
def ReadAgainCardSaid : Prop := Claim7.holds Tryz.pinned (.plain (OpenSpec.ofChange readAgainSpec)) readAgainCard

/-- THE TIED CARD OF 'demoticlaw08.ReadValues'. -/
def readValuesCard : Claim7 := { stood := { row := readValuesRow, standIns := [], harness := (true, "8200f6ab3ca0bd2882b554d8dd3090b53fa663ecbd1c827ce71ffc11df5c4e53"), looks := true }, kinds := [], alts := [], laidByText := true, laidKinds := [.data, .pinned], laidTests := true, laidLooks := .later }
def ReadValuesCardSaid : Prop := Claim7.holds Tryz.pinned (.plain (OpenSpec.ofChange readValuesSpec)) readValuesCard

/-- THE TIED CARD OF 'demoticlaw08.ReadNotes'. -/
def readNotesCard : Claim7 := { stood := { row := readNotesRow, standIns := [], harness := (true, "8200f6ab3ca0bd2882b554d8dd3090b53fa663ecbd1c827ce71ffc11df5c4e53"), looks := true }, kinds := [], alts := [], laidByText := true, laidKinds := [.data, .pinned], laidTests := true, laidLooks := .later }
def ReadNotesCardSaid : Prop := Claim7.holds Tryz.pinned (.plain (OpenSpec.ofChange readNotesSpec)) readNotesCard

/-- THE SECOND FORM's CARD OF 'demoticlaw08.ReadShows'. -/
def readShowsUptoCard : Claim7 := { stood := { row := readShowsUptoRow, standIns := [], harness := (true, "8200f6ab3ca0bd2882b554d8dd3090b53fa663ecbd1c827ce71ffc11df5c4e53"), looks := true }, kinds := [], alts := [], laidByText := true, laidKinds := [.data, .pinned], laidTests := true, laidLooks := .later }
def ReadShowsUptoCardSaid : Prop := Claim7.holds Tryz.pinned (.plain (OpenSpec.upto readShowsSpec)) readShowsUptoCard

/-- THE SECOND FORM's CARD OF 'demoticlaw08.ReadLoose'. -/
def readLooseUptoCard : Claim7 := { stood := { row := readLooseUptoRow, standIns := [], harness := (true, "8200f6ab3ca0bd2882b554d8dd3090b53fa663ecbd1c827ce71ffc11df5c4e53"), looks := true }, kinds := [], alts := [], laidByText := true, laidKinds := [.data, .pinned], laidTests := true, laidLooks := .later }
def ReadLooseUptoCardSaid : Prop := Claim7.holds Tryz.pinned (.plain (OpenSpec.upto readLooseSpec)) readLooseUptoCard

/-- THE SECOND FORM's CARD OF 'demoticlaw08.ReadPlaces'. -/
def readPlacesUptoCard : Claim7 := { stood := { row := readPlacesUptoRow, standIns := [], harness := (true, "8200f6ab3ca0bd2882b554d8dd3090b53fa663ecbd1c827ce71ffc11df5c4e53"), looks := true }, kinds := [], alts := [], laidByText := true, laidKinds := [.data, .pinned], laidTests := true, laidLooks := .later }
def ReadPlacesUptoCardSaid : Prop := Claim7.holds Tryz.pinned (.plain (OpenSpec.upto readPlacesSpec)) readPlacesUptoCard

/-- THE SECOND FORM's CARD OF 'demoticlaw08.ReadWords'. -/
def readWordsUptoCard : Claim7 := { stood := { row := readWordsUptoRow, standIns := [], harness := (true, "8200f6ab3ca0bd2882b554d8dd3090b53fa663ecbd1c827ce71ffc11df5c4e53"), looks := true }, kinds := [], alts := [], laidByText := true, laidKinds := [.data, .pinned], laidTests := true, laidLooks := .later }
def ReadWordsUptoCardSaid : Prop := Claim7.holds Tryz.pinned (.plain (OpenSpec.upto readWordsSpec)) readWordsUptoCard

/-- THE SECOND FORM's CARD OF 'demoticlaw08.ReadAgain'. -/
def readAgainUptoCard : Claim7 := { stood := { row := readAgainUptoRow, standIns := [], harness := (true, "8200f6ab3ca0bd2882b554d8dd3090b53fa663ecbd1c827ce71ffc11df5c4e53"), looks := true }, kinds := [], alts := [], laidByText := true, laidKinds := [.data, .pinned], laidTests := true, laidLooks := .later }
def ReadAgainUptoCardSaid : Prop := Claim7.holds Tryz.pinned (.plain (OpenSpec.upto readAgainSpec)) readAgainUptoCard

/-- THE SECOND FORM's CARD OF 'demoticlaw08.ReadValues'. -/
def readValuesUptoCard : Claim7 := { stood := { row := readValuesUptoRow, standIns := [], harness := (true, "8200f6ab3ca0bd2882b554d8dd3090b53fa663ecbd1c827ce71ffc11df5c4e53"), looks := true }, kinds := [], alts := [], laidByText := true, laidKinds := [.data, .pinned], laidTests := true, laidLooks := .later }
def ReadValuesUptoCardSaid : Prop := Claim7.holds Tryz.pinned (.plain (OpenSpec.upto readValuesSpec)) readValuesUptoCard

/-- THE SECOND FORM's CARD OF 'demoticlaw08.ReadNotes'. -/
def readNotesUptoCard : Claim7 := { stood := { row := readNotesUptoRow, standIns := [], harness := (true, "8200f6ab3ca0bd2882b554d8dd3090b53fa663ecbd1c827ce71ffc11df5c4e53"), looks := true }, kinds := [], alts := [], laidByText := true, laidKinds := [.data, .pinned], laidTests := true, laidLooks := .later }
def ReadNotesUptoCardSaid : Prop := Claim7.holds Tryz.pinned (.plain (OpenSpec.upto readNotesSpec)) readNotesUptoCard
end Rows
end Go.Proofs.YtiebcdeafofgdaaGreatDoor
