/-
  NARROWER THAN 'FOR EVERY INPUT', by the rows' own cells (each row's printed sentence says how): ReadShows: loops, laid · ReadLoose: loops, laid · ReadPlaces: laid · ReadWords: loops, laid · ReadAgain: laid · ReadValues: laid · ReadNotes: laid.
  DERIVED. THE GIVEN ROWS OF THIS SEAT. 7 by the template 'for every input the law returns true; each argument reads behind the call as it read before'; 0 by the template 'total and deterministic' (their statements: YtiebcdeafofgdaaGreatDoorTotals.lean).
  GIVEN WITH THE SEED: the statements are not yours to turn. If you find one false, say at which input.
  Laid BY PROGRAM, IN A SANDBOX (cutbox-rows.mjs): the forced cells as the released guide's own fill.sh prints them over the translation de8f00e548982bd4… (all of the seat's roots in one cut). By AI agents, Wed Nov 11 2026. No macro, syntax, notation, axiom, sorry.
-/
import Derived.Test.YtiebcdeafofgdaaGreatDoorChecked
import GoSem.PinnedTables
import GoSem.Claim
import GoSem.ClaimJoined
import GoSem.ClaimMapViews
import Derived.JoinedTies
import Derived.KernelRfl
namespace Go.Proofs.YtiebcdeafofgdaaGreatDoor
/- THE CELL 'sum', in the pinned program and in every row, IS THE sha256 OF THE DUMP (.gsa) THAT YtiebcdeafofgdaaGreatDoorProg.lean LOADS. Nothing in Lean hashes anything: it is a label: what it is worth is what the hold of that sum in a sandbox is worth. -/
noncomputable def Tryz.pinned : Pinned := { name := "ytiebcdeafofgdaagreatdoor", sum := "de8f00e548982bd4e8a29276596e8d970be56ffee4607179ed4f8a5543cf64c7", checked := Tryz.checked }
namespace Rows
def none {H : Type} : Left H := { results := [], args := [] }

/- WHAT THE LISTED PACKAGE-LEVEL VARIABLES READ AS WHEN THE CALL BEGINS. Each datum BY PROGRAM (the guide's laid-datum.mjs) off the statement by which the dump's own 'gosem.cut.vars' lays the variable. In a bare row this is a premise. The card (YtiebcdeafofgdaaGreatDoorCards.lean) ties it to the program's text. -/
def laid_unicode_utf8_acceptRanges {H : Type} : DataW H := .agg [.agg [.lit (.int .u8 128), .lit (.int .u8 191)], .agg [.lit (.int .u8 160), .lit (.int .u8 191)], .agg [.lit (.int .u8 128), .lit (.int .u8 159)], .agg [.lit (.int .u8 144), .lit (.int .u8 191)], .agg [.lit (.int .u8 128), .lit (.int .u8 143)], .agg [.lit (.int .u8 0), .lit (.int .u8 0)], .agg [.lit (.int .u8 0), .lit (.int .u8 0)], .agg [.lit (.int .u8 0), .lit (.int .u8 0)], .agg [.lit (.int .u8 0), .lit (.int .u8 0)], .agg [.lit (.int .u8 0), .lit (.int .u8 0)], .agg [.lit (.int .u8 0), .lit (.int .u8 0)], .agg [.lit (.int .u8 0), .lit (.int .u8 0)], .agg [.lit (.int .u8 0), .lit (.int .u8 0)], .agg [.lit (.int .u8 0), .lit (.int .u8 0)], .agg [.lit (.int .u8 0), .lit (.int .u8 0)], .agg [.lit (.int .u8 0), .lit (.int .u8 0)]]
/-- One of Go's own tables, pinned by name: the form's constant. -/
def laid_unicode_utf8_first : DataW Unit := Go.Pinned.utf8First

/-- 'demoticlaw08.ReadShows': WHATEVER THE INPUT: true; the input reads as it did. -/
def readShowsSpec : ChangeSpec := { name := "readShows", fn := fun _ => fun
  | [d1, d2] => { results := [.lit (.bool true)], args := [d1, d2] }
  | _ => none }
def readShowsRow : OpenClaim := { program := "ytiebcdeafofgdaagreatdoor", sum := "de8f00e548982bd4e8a29276596e8d970be56ffee4607179ed4f8a5543cf64c7", func := "demotic/demoticlaw08.ReadShows", spec := "readShows", inPlace := ["internal/bytealg.IndexByteString", "internal/bytealg.IndexString", "internal/abi.NoEscape", "internal/bytealg.CountString", "internal/bytealg.MakeNoZero"], unfollowed := true, recurses := true, named := ["unicode/utf8.first", "unicode/utf8.acceptRanges", "internal/bytealg.MaxLen"], loops := true, apart := false, laid := [("unicode/utf8.acceptRanges", laid_unicode_utf8_acceptRanges), ("unicode/utf8.first", laid_unicode_utf8_first)] }
def ReadShowsSaid : Prop := readShowsRow.holds Tryz.pinned (OpenSpec.ofChange readShowsSpec)

/-- ITS FALSE NEIGHBOUR: 'it returns false'. Refute it at one input. -/
def readShowsWrong : ChangeSpec := { name := "readShows", fn := fun _ => fun
  | [d1, d2] => { results := [.lit (.bool false)], args := [d1, d2] }
  | _ => none }
def ReadShowsWrongFalsely : Prop := readShowsRow.holds Tryz.pinned (OpenSpec.ofChange readShowsWrong)

/-- 'demoticlaw08.ReadLoose': WHATEVER THE INPUT: true; the input reads as it did. -/
def readLooseSpec : ChangeSpec := { name := "readLoose", fn := fun _ => fun
  | [d] => { results := [.lit (.bool true)], args := [d] }
  | _ => none }
def readLooseRow : OpenClaim := { program := "ytiebcdeafofgdaagreatdoor", sum := "de8f00e548982bd4e8a29276596e8d970be56ffee4607179ed4f8a5543cf64c7", func := "demotic/demoticlaw08.ReadLoose", spec := "readLoose", inPlace := ["internal/bytealg.IndexByteString", "internal/bytealg.IndexString", "internal/abi.NoEscape", "internal/bytealg.CountString", "internal/bytealg.MakeNoZero"], unfollowed := true, recurses := true, named := ["unicode/utf8.first", "unicode/utf8.acceptRanges", "internal/bytealg.MaxLen"], loops := true, apart := false, laid := [("unicode/utf8.acceptRanges", laid_unicode_utf8_acceptRanges), ("unicode/utf8.first", laid_unicode_utf8_first)] }
def ReadLooseSaid : Prop := readLooseRow.holds Tryz.pinned (OpenSpec.ofChange readLooseSpec)

/-- ITS FALSE NEIGHBOUR: 'it returns false'. Refute it at one input. -/
def readLooseWrong : ChangeSpec := { name := "readLoose", fn := fun _ => fun
  | [d] => { results := [.lit (.bool false)], args := [d] }
  | _ => none }
def ReadLooseWrongFalsely : Prop := readLooseRow.holds Tryz.pinned (OpenSpec.ofChange readLooseWrong)

/-- 'demoticlaw08.ReadPlaces': WHATEVER THE INPUT: true; the input reads as it did. -/
def readPlacesSpec : ChangeSpec := { name := "readPlaces", fn := fun _ => fun
  | [d] => { results := [.lit (.bool true)], args := [d] }
  | _ => none }
def readPlacesRow : OpenClaim := { program := "ytiebcdeafofgdaagreatdoor", sum := "de8f00e548982bd4e8a29276596e8d970be56ffee4607179ed4f8a5543cf64c7", func := "demotic/demoticlaw08.ReadPlaces", spec := "readPlaces", inPlace := ["internal/bytealg.IndexByteString", "internal/bytealg.IndexString", "internal/abi.NoEscape", "internal/bytealg.CountString", "internal/bytealg.MakeNoZero"], unfollowed := true, recurses := true, named := ["unicode/utf8.first", "unicode/utf8.acceptRanges", "internal/bytealg.MaxLen"], apart := false, laid := [("unicode/utf8.acceptRanges", laid_unicode_utf8_acceptRanges), ("unicode/utf8.first", laid_unicode_utf8_first)] }
def ReadPlacesSaid : Prop := readPlacesRow.holds Tryz.pinned (OpenSpec.ofChange readPlacesSpec)

/-- ITS FALSE NEIGHBOUR: 'it returns false'. Refute it at one input. -/
def readPlacesWrong : ChangeSpec := { name := "readPlaces", fn := fun _ => fun
  | [d] => { results := [.lit (.bool false)], args := [d] }
  | _ => none }
def ReadPlacesWrongFalsely : Prop := readPlacesRow.holds Tryz.pinned (OpenSpec.ofChange readPlacesWrong)

/-- 'demoticlaw08.ReadWords': WHATEVER THE INPUT: true; the input reads as it did. -/
def readWordsSpec : ChangeSpec := { name := "readWords", fn := fun _ => fun
  | [d1, d2] => { results := [.lit (.bool true)], args := [d1, d2] }
  | _ => none }
def readWordsRow : OpenClaim := { program := "ytiebcdeafofgdaagreatdoor", sum := "de8f00e548982bd4e8a29276596e8d970be56ffee4607179ed4f8a5543cf64c7", func := "demotic/demoticlaw08.ReadWords", spec := "readWords", inPlace := ["internal/bytealg.IndexByteString", "internal/bytealg.IndexString", "internal/abi.NoEscape", "internal/bytealg.CountString", "internal/bytealg.MakeNoZero"], unfollowed := true, recurses := true, named := ["unicode/utf8.first", "unicode/utf8.acceptRanges", "internal/bytealg.MaxLen"], loops := true, apart := false, laid := [("unicode/utf8.acceptRanges", laid_unicode_utf8_acceptRanges), ("unicode/utf8.first", laid_unicode_utf8_first)] }
def ReadWordsSaid : Prop := readWordsRow.holds Tryz.pinned (OpenSpec.ofChange readWordsSpec)

/-- ITS FALSE NEIGHBOUR: 'it returns false'. Refute it at one input. -/
def readWordsWrong : ChangeSpec := { name := "readWords", fn := fun _ => fun
  | [d1, d2] => { results := [.lit (.bool false)], args := [d1, d2] }
  | _ => none }
def ReadWordsWrongFalsely : Prop := readWordsRow.holds Tryz.pinned (OpenSpec.ofChange readWordsWrong)

/-- 'demoticlaw08.ReadAgain': WHATEVER THE INPUT: true; the input reads as it did. -/
def readAgainSpec : ChangeSpec := { name := "readAgain", fn := fun _ => fun
  | [d] => { results := [.lit (.bool true)], args := [d] }
  | _ => none }
def readAgainRow : OpenClaim := { program := "ytiebcdeafofgdaagreatdoor", sum := "de8f00e548982bd4e8a29276596e8d970be56ffee4607179ed4f8a5543cf64c7", func := "demotic/demoticlaw08.ReadAgain", spec := "readAgain", inPlace := ["internal/bytealg.IndexByteString", "internal/bytealg.IndexString", "internal/abi.NoEscape", "internal/bytealg.CountString", "internal/bytealg.MakeNoZero"], unfollowed := true, recurses := true, named := ["unicode/utf8.first", "unicode/utf8.acceptRanges", "internal/bytealg.MaxLen"], apart := false, laid := [("unicode/utf8.acceptRanges", laid_unicode_utf8_acceptRanges), ("unicode/utf8.first", laid_unicode_utf8_first)] }
def ReadAgainSaid : Prop := readAgainRow.holds Tryz.pinned (OpenSpec.ofChange readAgainSpec)

/-- ITS FALSE NEIGHBOUR: 'it returns false'. Refute it at one input. -/
def readAgainWrong : ChangeSpec := { name := "readAgain", fn := fun _ => fun
  | [d] => { results := [.lit (.bool false)], args := [d] }
  | _ => none }
def ReadAgainWrongFalsely : Prop := readAgainRow.holds Tryz.pinned (OpenSpec.ofChange readAgainWrong)

/-- 'demoticlaw08.ReadValues': WHATEVER THE INPUT: true; the input reads as it did. -/
def readValuesSpec : ChangeSpec := { name := "readValues", fn := fun _ => fun
  | [d] => { results := [.lit (.bool true)], args := [d] }
  | _ => none }
def readValuesRow : OpenClaim := { program := "ytiebcdeafofgdaagreatdoor", sum := "de8f00e548982bd4e8a29276596e8d970be56ffee4607179ed4f8a5543cf64c7", func := "demotic/demoticlaw08.ReadValues", spec := "readValues", inPlace := ["internal/bytealg.IndexByteString", "internal/bytealg.IndexString", "internal/abi.NoEscape", "internal/bytealg.CountString", "internal/bytealg.MakeNoZero"], unfollowed := true, recurses := true, named := ["unicode/utf8.first", "unicode/utf8.acceptRanges", "internal/bytealg.MaxLen"], apart := false, laid := [("unicode/utf8.acceptRanges", laid_unicode_utf8_acceptRanges), ("unicode/utf8.first", laid_unicode_utf8_first)] }
def ReadValuesSaid : Prop := readValuesRow.holds Tryz.pinned (OpenSpec.ofChange readValuesSpec)

/-- ITS FALSE NEIGHBOUR: 'it returns false'. Refute it at one input. -/
def readValuesWrong : ChangeSpec := { name := "readValues", fn := fun _ => fun
  | [d] => { results := [.lit (.bool false)], args := [d] }
  | _ => none }
def ReadValuesWrongFalsely : Prop := readValuesRow.holds Tryz.pinned (OpenSpec.ofChange readValuesWrong)

/-- 'demoticlaw08.ReadNotes': WHATEVER THE INPUT: true; the input reads as it did. -/
def readNotesSpec : ChangeSpec := { name := "readNotes", fn := fun _ => fun
  | [d1, d2] => { results := [.lit (.bool true)], args := [d1, d2] }
  | _ => none }
def readNotesRow : OpenClaim := { program := "ytiebcdeafofgdaagreatdoor", sum := "de8f00e548982bd4e8a29276596e8d970be56ffee4607179ed4f8a5543cf64c7", func := "demotic/demoticlaw08.ReadNotes", spec := "readNotes", inPlace := ["internal/bytealg.IndexByteString", "internal/bytealg.IndexString", "internal/abi.NoEscape", "internal/bytealg.CountString", "internal/bytealg.MakeNoZero"], unfollowed := true, recurses := true, named := ["unicode/utf8.first", "unicode/utf8.acceptRanges", "internal/bytealg.MaxLen"], apart := false, laid := [("unicode/utf8.acceptRanges", laid_unicode_utf8_acceptRanges), ("unicode/utf8.first", laid_unicode_utf8_first)] }
def ReadNotesSaid : Prop := readNotesRow.holds Tryz.pinned (OpenSpec.ofChange readNotesSpec)

/-- ITS FALSE NEIGHBOUR: 'it returns false'. Refute it at one input. -/
def readNotesWrong : ChangeSpec := { name := "readNotes", fn := fun _ => fun
  | [d1, d2] => { results := [.lit (.bool false)], args := [d1, d2] }
  | _ => none }
def ReadNotesWrongFalsely : Prop := readNotesRow.holds Tryz.pinned (OpenSpec.ofChange readNotesWrong)

/- THE SECOND FORM. 'bulk': how many values and letters a reading holds, each counted each time it is reached (what is shared counts as often as it is met; a slice's spare places count too). A statement '..UptoSaid' is the law's where the arguments, and the package variables that the reading takes, are together of bulk at most 1048576: NARROWER than '..Said'. Prove '..Said' where nothing that the law and all that it calls make is longer than what came in: it says more and counts as full. Else prove '..UptoSaid'. A law counts once. -/
mutual
def uptoBulk {H : Type} : DataW H → Nat
  | .lit (.string bytes) => bytes.length + 1
  | .lit _ => 1
  | .nil => 1
  | .ptr d => uptoBulk d + 1
  | .slice elems spare => uptoBulkAll elems + uptoBulkAll spare + 1
  | .agg parts => uptoBulkAll parts + 1
  | .iface _ d => uptoBulk d + 1
  | .map entries => uptoBulkEntries entries + 1
  | .held _ => 1
def uptoBulkAll {H : Type} : List (DataW H) → Nat
  | [] => 0
  | d :: r => uptoBulk d + uptoBulkAll r
def uptoBulkEntries {H : Type} : List (Lit × DataW H) → Nat
  | [] => 0
  | x :: r => uptoBulkEntry x + uptoBulkEntries r
def uptoBulkEntry {H : Type} : Lit × DataW H → Nat
  | (.string bytes, d) => bytes.length + uptoBulk d + 1
  | (_, d) => uptoBulk d + 1
 end
def uptoSmall : (H : Type) → List (DataW H) → Bool := fun _ ds => decide (uptoBulkAll ds ≤ 1048576)
def OpenSpec.upto (s : _root_.Go.ChangeSpec) : _root_.Go.OpenSpec := { _root_.Go.OpenSpec.ofChange s with cond := some uptoSmall }

/-- 'demoticlaw08.ReadShows', WHERE WHAT IT READS IS OF BULK AT MOST 1048576: true; the input reads as it did. -/
def readShowsUptoRow : OpenClaim := { program := "ytiebcdeafofgdaagreatdoor", sum := "de8f00e548982bd4e8a29276596e8d970be56ffee4607179ed4f8a5543cf64c7", func := "demotic/demoticlaw08.ReadShows", spec := "readShows", inPlace := ["internal/bytealg.IndexByteString", "internal/bytealg.IndexString", "internal/abi.NoEscape", "internal/bytealg.CountString", "internal/bytealg.MakeNoZero"], unfollowed := true, recurses := true, named := ["unicode/utf8.first", "unicode/utf8.acceptRanges", "internal/bytealg.MaxLen"], loops := true, apart := false, laid := [("unicode/utf8.acceptRanges", laid_unicode_utf8_acceptRanges), ("unicode/utf8.first", laid_unicode_utf8_first)], narrowed := true }
def ReadShowsUptoSaid : Prop := readShowsUptoRow.holds Tryz.pinned (OpenSpec.upto readShowsSpec)

/-- 'demoticlaw08.ReadLoose', WHERE WHAT IT READS IS OF BULK AT MOST 1048576: true; the input reads as it did. -/
def readLooseUptoRow : OpenClaim := { program := "ytiebcdeafofgdaagreatdoor", sum := "de8f00e548982bd4e8a29276596e8d970be56ffee4607179ed4f8a5543cf64c7", func := "demotic/demoticlaw08.ReadLoose", spec := "readLoose", inPlace := ["internal/bytealg.IndexByteString", "internal/bytealg.IndexString", "internal/abi.NoEscape", "internal/bytealg.CountString", "internal/bytealg.MakeNoZero"], unfollowed := true, recurses := true, named := ["unicode/utf8.first", "unicode/utf8.acceptRanges", "internal/bytealg.MaxLen"], loops := true, apart := false, laid := [("unicode/utf8.acceptRanges", laid_unicode_utf8_acceptRanges), ("unicode/utf8.first", laid_unicode_utf8_first)], narrowed := true }
def ReadLooseUptoSaid : Prop := readLooseUptoRow.holds Tryz.pinned (OpenSpec.upto readLooseSpec)

/-- 'demoticlaw08.ReadPlaces', WHERE WHAT IT READS IS OF BULK AT MOST 1048576: true; the input reads as it did. -/
def readPlacesUptoRow : OpenClaim := { program := "ytiebcdeafofgdaagreatdoor", sum := "de8f00e548982bd4e8a29276596e8d970be56ffee4607179ed4f8a5543cf64c7", func := "demotic/demoticlaw08.ReadPlaces", spec := "readPlaces", inPlace := ["internal/bytealg.IndexByteString", "internal/bytealg.IndexString", "internal/abi.NoEscape", "internal/bytealg.CountString", "internal/bytealg.MakeNoZero"], unfollowed := true, recurses := true, named := ["unicode/utf8.first", "unicode/utf8.acceptRanges", "internal/bytealg.MaxLen"], apart := false, laid := [("unicode/utf8.acceptRanges", laid_unicode_utf8_acceptRanges), ("unicode/utf8.first", laid_unicode_utf8_first)], narrowed := true }
def ReadPlacesUptoSaid : Prop := readPlacesUptoRow.holds Tryz.pinned (OpenSpec.upto readPlacesSpec)

/-- 'demoticlaw08.ReadWords', WHERE WHAT IT READS IS OF BULK AT MOST 1048576: true; the input reads as it did. -/
def readWordsUptoRow : OpenClaim := { program := "ytiebcdeafofgdaagreatdoor", sum := "de8f00e548982bd4e8a29276596e8d970be56ffee4607179ed4f8a5543cf64c7", func := "demotic/demoticlaw08.ReadWords", spec := "readWords", inPlace := ["internal/bytealg.IndexByteString", "internal/bytealg.IndexString", "internal/abi.NoEscape", "internal/bytealg.CountString", "internal/bytealg.MakeNoZero"], unfollowed := true, recurses := true, named := ["unicode/utf8.first", "unicode/utf8.acceptRanges", "internal/bytealg.MaxLen"], loops := true, apart := false, laid := [("unicode/utf8.acceptRanges", laid_unicode_utf8_acceptRanges), ("unicode/utf8.first", laid_unicode_utf8_first)], narrowed := true }
def ReadWordsUptoSaid : Prop := readWordsUptoRow.holds Tryz.pinned (OpenSpec.upto readWordsSpec)

/-- 'demoticlaw08.ReadAgain', WHERE WHAT IT READS IS OF BULK AT MOST 1048576: true; the input reads as it did. -/
def readAgainUptoRow : OpenClaim := { program := "ytiebcdeafofgdaagreatdoor", sum := "de8f00e548982bd4e8a29276596e8d970be56ffee4607179ed4f8a5543cf64c7", func := "demotic/demoticlaw08.ReadAgain", spec := "readAgain", inPlace := ["internal/bytealg.IndexByteString", "internal/bytealg.IndexString", "internal/abi.NoEscape", "internal/bytealg.CountString", "internal/bytealg.MakeNoZero"], unfollowed := true, recurses := true, named := ["unicode/utf8.first", "unicode/utf8.acceptRanges", "internal/bytealg.MaxLen"], apart := false, laid := [("unicode/utf8.acceptRanges", laid_unicode_utf8_acceptRanges), ("unicode/utf8.first", laid_unicode_utf8_first)], narrowed := true }
def ReadAgainUptoSaid : Prop := readAgainUptoRow.holds Tryz.pinned (OpenSpec.upto readAgainSpec)

/-- 'demoticlaw08.ReadValues', WHERE WHAT IT READS IS OF BULK AT MOST 1048576: true; the input reads as it did. -/
def readValuesUptoRow : OpenClaim := { program := "ytiebcdeafofgdaagreatdoor", sum := "de8f00e548982bd4e8a29276596e8d970be56ffee4607179ed4f8a5543cf64c7", func := "demotic/demoticlaw08.ReadValues", spec := "readValues", inPlace := ["internal/bytealg.IndexByteString", "internal/bytealg.IndexString", "internal/abi.NoEscape", "internal/bytealg.CountString", "internal/bytealg.MakeNoZero"], unfollowed := true, recurses := true, named := ["unicode/utf8.first", "unicode/utf8.acceptRanges", "internal/bytealg.MaxLen"], apart := false, laid := [("unicode/utf8.acceptRanges", laid_unicode_utf8_acceptRanges), ("unicode/utf8.first", laid_unicode_utf8_first)], narrowed := true }
def ReadValuesUptoSaid : Prop := readValuesUptoRow.holds Tryz.pinned (OpenSpec.upto readValuesSpec)

/-- 'demoticlaw08.ReadNotes', WHERE WHAT IT READS IS OF BULK AT MOST 1048576: true; the input reads as it did. -/
def readNotesUptoRow : OpenClaim := { program := "ytiebcdeafofgdaagreatdoor", sum := "de8f00e548982bd4e8a29276596e8d970be56ffee4607179ed4f8a5543cf64c7", func := "demotic/demoticlaw08.ReadNotes", spec := "readNotes", inPlace := ["internal/bytealg.IndexByteString", "internal/bytealg.IndexString", "internal/abi.NoEscape", "internal/bytealg.CountString", "internal/bytealg.MakeNoZero"], unfollowed := true, recurses := true, named := ["unicode/utf8.first", "unicode/utf8.acceptRanges", "internal/bytealg.MaxLen"], apart := false, laid := [("unicode/utf8.acceptRanges", laid_unicode_utf8_acceptRanges), ("unicode/utf8.first", laid_unicode_utf8_first)], narrowed := true }
def ReadNotesUptoSaid : Prop := readNotesUptoRow.holds Tryz.pinned (OpenSpec.upto readNotesSpec)

end Rows
end Go.Proofs.YtiebcdeafofgdaaGreatDoor
