/-
  DERIVED. GIVEN WITH THE SEED: THE CARDS: each row of YtbkkegnmlhhpcaaDoorRows.lean that lists a variable, with what it lists TIED to the program's text (the seventh form; the later family's looks); each row that meets fmt, with fmt's text TOLD by the authors' own Lean function (tested against real Go, not proved from fmt's source: count such statements apart). THE CARD IS WHAT COUNTS. Prove the row's statement (the work); the ties are given (YtbkkegnmlhhpcaaDoorTie.lean); close each card by the builder's one call (the guide's Derived/Test/ToyasCard.lean, 'card_holds'). Laid BY PROGRAM, IN A SANDBOX (cutbox-door.mjs). By AI agents, Wed Nov 11 2026. No macro, syntax, notation, axiom, sorry.
-/
import Derived.Test.YtbkkegnmlhhpcaaDoorRows
import GoSem.ClaimSeven
namespace Go.Proofs.YtbkkegnmlhhpcaaDoor
namespace Rows

/-- THE TIED CARD OF 'demoticlaw20.DiagOnce'. -/
def diagOnceCard : Claim7 := { stood := { row := diagOnceRow, standIns := [], harness := (true, "0a87f05ff4142108a95480eaf88fae5e7aabd521e68a459cf44eebdd6209d472"), looks := false }, kinds := [], alts := [], laidByText := true, laidKinds := [.data, .data, .data], laidTests := true, laidLooks := .later }
def DiagOnceCardSaid : Prop := Claim7.holds Tryd.pinned (.plain (OpenSpec.ofChange diagOnceSpec)) diagOnceCard

/-- THE TIED CARD OF 'demoticlaw20.DiagTells'. -/
def diagTellsCard : Claim7 := { stood := { row := diagTellsRow, standIns := [], harness := (true, "0a87f05ff4142108a95480eaf88fae5e7aabd521e68a459cf44eebdd6209d472"), looks := false }, kinds := [], alts := [], laidByText := true, laidKinds := [.data, .data, .data], laidTests := true, laidLooks := .later }
def DiagTellsCardSaid : Prop := Claim7.holds Tryd.pinned (.plain (OpenSpec.ofChange diagTellsSpec)) diagTellsCard

/-- THE TIED CARD OF 'demoticlaw20.DiagJoins'. -/
def diagJoinsCard : Claim7 := { stood := { row := diagJoinsRow, standIns := [], harness := (true, "0a87f05ff4142108a95480eaf88fae5e7aabd521e68a459cf44eebdd6209d472"), looks := false }, kinds := [], alts := [], laidByText := true, laidKinds := [.data, .data, .data], laidTests := true, laidLooks := .later }
def DiagJoinsCardSaid : Prop := Claim7.holds Tryd.pinned (.plain (OpenSpec.ofChange diagJoinsSpec)) diagJoinsCard

/-- THE SECOND FORM's CARD OF 'demoticlaw20.DiagOnce'. -/
def diagOnceUptoCard : Claim7 := { stood := { row := diagOnceUptoRow, standIns := [], harness := (true, "0a87f05ff4142108a95480eaf88fae5e7aabd521e68a459cf44eebdd6209d472"), looks := false }, kinds := [], alts := [], laidByText := true, laidKinds := [.data, .data, .data], laidTests := true, laidLooks := .later }
def DiagOnceUptoCardSaid : Prop := Claim7.holds Tryd.pinned (.plain (OpenSpec.upto diagOnceSpec)) diagOnceUptoCard

/-- THE SECOND FORM's CARD OF 'demoticlaw20.DiagTells'. -/
def diagTellsUptoCard : Claim7 := { stood := { row := diagTellsUptoRow, standIns := [], harness := (true, "0a87f05ff4142108a95480eaf88fae5e7aabd521e68a459cf44eebdd6209d472"), looks := false }, kinds := [], alts := [], laidByText := true, laidKinds := [.data, .data, .data], laidTests := true, laidLooks := .later }
def DiagTellsUptoCardSaid : Prop := Claim7.holds Tryd.pinned (.plain (OpenSpec.upto diagTellsSpec)) diagTellsUptoCard

/-- THE SECOND FORM's CARD OF 'demoticlaw20.DiagJoins'. -/
def diagJoinsUptoCard : Claim7 := { stood := { row := diagJoinsUptoRow, standIns := [], harness := (true, "0a87f05ff4142108a95480eaf88fae5e7aabd521e68a459cf44eebdd6209d472"), looks := false }, kinds := [], alts := [], laidByText := true, laidKinds := [.data, .data, .data], laidTests := true, laidLooks := .later }
def DiagJoinsUptoCardSaid : Prop := Claim7.holds Tryd.pinned (.plain (OpenSpec.upto diagJoinsSpec)) diagJoinsUptoCard
end Rows
end Go.Proofs.YtbkkegnmlhhpcaaDoor
